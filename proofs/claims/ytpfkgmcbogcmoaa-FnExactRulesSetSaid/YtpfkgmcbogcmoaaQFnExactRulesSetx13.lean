-- Written by a program of this session (mk.py). Lean checks it.
import Derived.Test.YtpfkgmcbogcmoaaQFnExactRulesSetx0
import Derived.Test.YtpfkgmcbogcmoaaQFnExactRulesSetx1
import Derived.Test.YtpfkgmcbogcmoaaQFnExactRulesSetx2
import Derived.Test.YtpfkgmcbogcmoaaQFnExactRulesSetx5
import Derived.Test.YtpfkgmcbogcmoaaQFnExactRulesSetx10
import Derived.Test.YtpfkgmcbogcmoaaQFnExactRulesSetx12
namespace Go.Proofs.Ytpfkgmcbogcmoaa.QFnExactRulesSet
open Go.RowKit Go.Proofs.YtpfkgmcbogcmoaaW.PrintWords Go.Proofs.YtpfkgmcbogcmoaaW.PrintLast Go.Proofs.YtpfkgmcbogcmoaaW.PrintMore
attribute [local go_sem] max2_int min2_int max_two min_two max_three min_three max_four min_four   -- for this text's walks alone
set_option linter.unusedVariables false
set_option linter.unusedSimpArgs false

/-! ### laws_FnExactRulesSet: function 9 -/
def laws_FnExactRulesSet.f (k : Nat) (l0_0 : List (S133)) (l0_1 : List (S131)) (l1 : List Int) : Option (Bool) := if (l1.length : Int) > 1048576 then (some true) else ((laws_szSystem.f k l0_0 l0_1 1048576).bind fun t314 => (if t314 < 0 then (some true) else ((laws_toSystem.f k l0_0 l0_1).bind fun bt315 => ((laws_toIntS.f k l1).bind fun t321 => ((spec_RulesSet.f k bt315.1 bt315.2 t321).bind fun t324 => ((laws_toSystem.f k l0_0 l0_1).bind fun bt325 => ((laws_toIntS.f k l1).bind fun t332 => ((impl_RulesSet.f k bt325.1 bt325.2 t332).bind fun t335 => (if (t335 != t324) = true then (some false) else ((laws_toSystem.f k l0_0 l0_1).bind fun bt336 => ((laws_eqSystem.f k bt325.1 bt325.2 bt336.1 bt336.2).bind fun t342 => (if t342 = true then ((laws_toIntS.f k l1).bind fun t343 => ((laws_eqIntS.f k t332 t343).bind fun t346 => (if t346 = true then (some true) else (some false)))) else (some false)))))))))))))
theorem laws_FnExactRulesSet.mono : ∀ a0 a1 a2 k, LeO (laws_FnExactRulesSet.f k a0 a1 a2) (laws_FnExactRulesSet.f (k + 1) a0 a1 a2) := by
 intro a0 a1 a2 k
 unfold laws_FnExactRulesSet.f
 repeat' first
   | (with_reducible exact impl_RulesSet.mono _ _ _ _)
   | (with_reducible exact laws_eqIntS.mono _ _ _)
   | (with_reducible exact laws_eqSystem.mono _ _ _ _ _)
   | (with_reducible exact laws_szSystem.mono _ _ _ _)
   | (with_reducible exact laws_toIntS.mono _ _)
   | (with_reducible exact laws_toSystem.mono _ _ _)
   | (with_reducible exact spec_RulesSet.mono _ _ _ _)
   | (with_reducible exact LeO.refl _)
   | (with_reducible exact LeO.none _)
   | (with_reducible refine LeO.ite ?_ ?_)
   | (with_reducible refine LeO.bind ?_ (fun _ => ?_))
   | exact impl_RulesSet.mono _ _ _ _
   | exact laws_eqIntS.mono _ _ _
   | exact laws_eqSystem.mono _ _ _ _ _
   | exact laws_szSystem.mono _ _ _ _
   | exact laws_toIntS.mono _ _
   | exact laws_toSystem.mono _ _ _
   | exact spec_RulesSet.mono _ _ _ _
   | exact LeO.none _
   | refine LeO.ite ?_ ?_
   | refine LeO.bind ?_ (fun _ => ?_)
set_option maxHeartbeats 8000000 in
set_option maxRecDepth 100000 in
theorem laws_FnExactRulesSet.calls (k : Nat) (A0_0 : Option Addr) (c0_0 : Nat) (l0_0 : List (S133)) (A0_1 : Option Addr) (c0_1 : Nat) (l0_1 : List (S131)) (A1 : Option Addr) (c1 : Nat) (l1 : List Int) (r : Bool) (w : World) (hr0_0 : Kd.C k133 w A0_0 l0_0.length l0_0) (hc0_0 : l0_0.length ≤ c0_0) (hr0_1 : Kd.C k131 w A0_1 l0_1.length l0_1) (hc0_1 : l0_1.length ≤ c0_1) (hr1 : Kd.C (Kd.int .i64) w A1 l1.length l1) (hc1 : l1.length ≤ c1) (h : laws_FnExactRulesSet.f k l0_0 l0_1 l1 = some r) :
  Calls Try.prog 9 #[.agg #[.slice A0_0 l0_0.length c0_0, .slice A0_1 l0_1.length c0_1], .slice A1 l1.length c1] w fun e w' => e = .returned (.bool r) ∧ Below w.heap.size w w' := by
 have hu52 := Try.underlying52
 have hu58 := Try.underlying58
 have HR0_0 := Aside0.mk hr0_0
 have HC0_0 := Aside0.mk hc0_0
 clear hr0_0 hc0_0
 have HR0_1 := Aside0.mk hr0_1
 have HC0_1 := Aside0.mk hc0_1
 clear hr0_1 hc0_1
 have HR1 := Aside0.mk hr1
 have HC1 := Aside0.mk hc1
 clear hr1 hc1
 have HB := Aside0.mk (Below.refl w.heap.size w)
 have H : (if (l1.length : Int) > 1048576 then (some true) else ((laws_szSystem.f k l0_0 l0_1 1048576).bind fun t314 => (if t314 < 0 then (some true) else ((laws_toSystem.f k l0_0 l0_1).bind fun bt315 => ((laws_toIntS.f k l1).bind fun t321 => ((spec_RulesSet.f k bt315.1 bt315.2 t321).bind fun t324 => ((laws_toSystem.f k l0_0 l0_1).bind fun bt325 => ((laws_toIntS.f k l1).bind fun t332 => ((impl_RulesSet.f k bt325.1 bt325.2 t332).bind fun t335 => (if (t335 != t324) = true then (some false) else ((laws_toSystem.f k l0_0 l0_1).bind fun bt336 => ((laws_eqSystem.f k bt325.1 bt325.2 bt336.1 bt336.2).bind fun t342 => (if t342 = true then ((laws_toIntS.f k l1).bind fun t343 => ((laws_eqIntS.f k t332 t343).bind fun t346 => (if t346 = true then (some true) else (some false)))) else (some false)))))))))))))) = some r := h
 clear h
 by_cases c3 : (l1.length : Int) > 1048576
 ·rw [if_pos c3] at H
  have c3b0 : decide (1048576 < (l1.length : Int)) = true := decide_eq_true c3
  have c3b1 : decide (1048576 < l1.length) = true := decide_eq_true (by omega)
  clear c3
  obtain rfl := Option.some.inj H
  go_enter Try.func9, Try.ntmps9
  go_wp2_with (first | ((with_reducible refine gate_dst (N := 2) rfl ?_); refine box_event ?hg (N := 2) ?hd (cs := #[.slice A0_0 l0_0.length c0_0, .slice A0_1 l0_1.length c0_1]) (t := 52) ?hr ?_; (case hd => rfl); (case hg => rfl); (case hr => first | (go_simp; done) | (go_simp; rfl)); intro gb313 hg w4 hbox hb; have n0_ := Aside0.mk (below_step (by repeat (first | (with_reducible first | exact HB.out | apply bwA | apply bwN | apply bwD) | exact HB.out)) hb); have n1_ := Aside0.mk (hbox); have n2_ := Aside0.mk ((by rw [hg]; exact (below_size (by repeat (first | (with_reducible first | exact HB.out | apply bwA | apply bwN | apply bwD) | exact HB.out))) : w.heap.size ≤ gb313)); have n3_ := Aside0.mk ((by rw [hg]; exact (below_size (by repeat (first | (with_reducible first | exact HB.out | apply bwA | apply bwN | apply bwD) | exact HB.out))) : w.heap.size ≤ gb313)); clear HB; have HB := n0_; have BK313 := n1_; have GW313 := n2_; have GE313 := n3_; clear n0_ n1_ n2_ n3_; clear hb hbox hg))
  go_ret
  exact ⟨ers, by repeat (first | (with_reducible first | exact HB.out | apply bwA | apply bwN | apply bwD | refine below_set ?_ GE313.out) | exact HB.out)⟩
 ·rw [if_neg c3] at H
  have c3b0 : decide (1048576 < (l1.length : Int)) = false := decide_eq_false c3
  have c3b1 : decide (1048576 < l1.length) = false := decide_eq_false (by omega)
  clear c3
  replace H := Option.bind_eq_some_iff.mp H
  obtain ⟨t314, A50, H⟩ := H
  replace H : (if t314 < 0 then (some true) else ((laws_toSystem.f k l0_0 l0_1).bind fun bt315 => ((laws_toIntS.f k l1).bind fun t321 => ((spec_RulesSet.f k bt315.1 bt315.2 t321).bind fun t324 => ((laws_toSystem.f k l0_0 l0_1).bind fun bt325 => ((laws_toIntS.f k l1).bind fun t332 => ((impl_RulesSet.f k bt325.1 bt325.2 t332).bind fun t335 => (if (t335 != t324) = true then (some false) else ((laws_toSystem.f k l0_0 l0_1).bind fun bt336 => ((laws_eqSystem.f k bt325.1 bt325.2 bt336.1 bt336.2).bind fun t342 => (if t342 = true then ((laws_toIntS.f k l1).bind fun t343 => ((laws_eqIntS.f k t332 t343).bind fun t346 => (if t346 = true then (some true) else (some false)))) else (some false)))))))))))) = some r := H
  have A5 := Aside0.mk A50
  clear A50
  by_cases c6 : t314 < 0
  ·rw [if_pos c6] at H
   have c6b0 : decide (t314 < 0) = true := decide_eq_true c6
   clear c6
   obtain rfl := Option.some.inj H
   go_enter Try.func9, Try.ntmps9
   go_wp2_with (first | ((with_reducible refine gate_dst (N := 2) rfl ?_); refine box_event ?hg (N := 2) ?hd (cs := #[.slice A0_0 l0_0.length c0_0, .slice A0_1 l0_1.length c0_1]) (t := 52) ?hr ?_; (case hd => rfl); (case hg => rfl); (case hr => first | (go_simp; done) | (go_simp; rfl)); intro gb313 hg w7 hbox hb; have n0_ := Aside0.mk (below_step (by repeat (first | (with_reducible first | exact HB.out | apply bwA | apply bwN | apply bwD) | exact HB.out)) hb); have n1_ := Aside0.mk (hbox); have n2_ := Aside0.mk ((by rw [hg]; exact (below_size (by repeat (first | (with_reducible first | exact HB.out | apply bwA | apply bwN | apply bwD) | exact HB.out))) : w.heap.size ≤ gb313)); have n3_ := Aside0.mk ((by rw [hg]; exact (below_size (by repeat (first | (with_reducible first | exact HB.out | apply bwA | apply bwN | apply bwD) | exact HB.out))) : w.heap.size ≤ gb313)); clear HB; have HB := n0_; have BK313 := n1_; have GW313 := n2_; have GE313 := n3_; clear n0_ n1_ n2_ n3_; clear hb hbox hg; have hcz8_0 : w7.cell? ⟨gb313, 0, none⟩ = some (.slice A0_0 l0_0.length c0_0) := (blk_cell BK313.out 0).trans rfl; have hcz8_1 : w7.cell? ⟨gb313, 1, none⟩ = some (.slice A0_1 l0_1.length c0_1) := (blk_cell BK313.out 1).trans rfl; have hfz8_0 := blk_frozen BK313.out 0; have hfz8_1 := blk_frozen BK313.out 1) | ((with_reducible refine gate_callee (f := 33) rfl ?_); refine goesL_ (some 15) rfl rfl Try.func33 (by kernel_rfl) rfl #[.agg #[.slice A0_0 l0_0.length c0_0, .slice A0_1 l0_1.length c0_1], .int .i64 1048576] rfl lmB ?_; (with_reducible refine (laws_szSystem.calls k _ _ l0_0 _ _ l0_1 1048576 t314 _ ?side1 ?side2 ?side3 ?side4 A5.out).mono ?_); (case side1 => repeat (first | exact (Kd.C_below HR0_0.out HB.out) | (with_reducible refine Kd.C_alloc ?_ _) | (with_reducible refine Kd.C_drewN ?_ _) | (with_reducible refine Kd.C_drew ?_))); (case side2 => exact HC0_0.out); (case side3 => repeat (first | exact (Kd.C_below HR0_1.out HB.out) | (with_reducible refine Kd.C_alloc ?_ _) | (with_reducible refine Kd.C_drewN ?_ _) | (with_reducible refine Kd.C_drew ?_))); (case side4 => exact HC0_1.out); rintro e w9 ⟨rfl, hb⟩; refine ⟨_, rfl, ?_⟩; have n0_ := Aside0.mk (blk_below (g := gb313) (o := .cells #[.slice A0_0 l0_0.length c0_0, .slice A0_1 l0_1.length c0_1] 52 (0, 0)) (bvK BK313.out) hb); have n1_ := Aside0.mk (below_step (by repeat (first | (with_reducible first | exact HB.out | apply bwA | apply bwN | apply bwD | refine below_set ?_ GE313.out) | exact HB.out)) hb); clear BK313; clear HB; have BK313 := n0_; have HB := n1_; clear n0_ n1_; (try clear hb); (try clear hb2); (try clear hk); (try clear hi)))
   go_ret
   exact ⟨ers, by repeat (first | (with_reducible first | exact HB.out | apply bwA | apply bwN | apply bwD | refine below_set ?_ GE313.out) | exact HB.out)⟩
  ·rw [if_neg c6] at H
   have c6b0 : decide (t314 < 0) = false := decide_eq_false c6
   clear c6
   replace H := Option.bind_eq_some_iff.mp H
   obtain ⟨⟨t315, t318⟩, A100, H⟩ := H
   replace H : ((laws_toIntS.f k l1).bind fun t321 => ((spec_RulesSet.f k t315 t318 t321).bind fun t324 => ((laws_toSystem.f k l0_0 l0_1).bind fun bt325 => ((laws_toIntS.f k l1).bind fun t332 => ((impl_RulesSet.f k bt325.1 bt325.2 t332).bind fun t335 => (if (t335 != t324) = true then (some false) else ((laws_toSystem.f k l0_0 l0_1).bind fun bt336 => ((laws_eqSystem.f k bt325.1 bt325.2 bt336.1 bt336.2).bind fun t342 => (if t342 = true then ((laws_toIntS.f k l1).bind fun t343 => ((laws_eqIntS.f k t332 t343).bind fun t346 => (if t346 = true then (some true) else (some false)))) else (some false)))))))))) = some r := H
   have A10 := Aside0.mk A100
   clear A100
   replace H := Option.bind_eq_some_iff.mp H
   obtain ⟨t321, A110, H⟩ := H
   replace H : ((spec_RulesSet.f k t315 t318 t321).bind fun t324 => ((laws_toSystem.f k l0_0 l0_1).bind fun bt325 => ((laws_toIntS.f k l1).bind fun t332 => ((impl_RulesSet.f k bt325.1 bt325.2 t332).bind fun t335 => (if (t335 != t324) = true then (some false) else ((laws_toSystem.f k l0_0 l0_1).bind fun bt336 => ((laws_eqSystem.f k bt325.1 bt325.2 bt336.1 bt336.2).bind fun t342 => (if t342 = true then ((laws_toIntS.f k l1).bind fun t343 => ((laws_eqIntS.f k t332 t343).bind fun t346 => (if t346 = true then (some true) else (some false)))) else (some false))))))))) = some r := H
   have A11 := Aside0.mk A110
   clear A110
   replace H := Option.bind_eq_some_iff.mp H
   obtain ⟨t324, A120, H⟩ := H
   replace H : ((laws_toSystem.f k l0_0 l0_1).bind fun bt325 => ((laws_toIntS.f k l1).bind fun t332 => ((impl_RulesSet.f k bt325.1 bt325.2 t332).bind fun t335 => (if (t335 != t324) = true then (some false) else ((laws_toSystem.f k l0_0 l0_1).bind fun bt336 => ((laws_eqSystem.f k bt325.1 bt325.2 bt336.1 bt336.2).bind fun t342 => (if t342 = true then ((laws_toIntS.f k l1).bind fun t343 => ((laws_eqIntS.f k t332 t343).bind fun t346 => (if t346 = true then (some true) else (some false)))) else (some false)))))))) = some r := H
   have A12 := Aside0.mk A120
   clear A120
   replace H := Option.bind_eq_some_iff.mp H
   obtain ⟨⟨t325, t328⟩, A130, H⟩ := H
   replace H : ((laws_toIntS.f k l1).bind fun t332 => ((impl_RulesSet.f k t325 t328 t332).bind fun t335 => (if (t335 != t324) = true then (some false) else ((laws_toSystem.f k l0_0 l0_1).bind fun bt336 => ((laws_eqSystem.f k t325 t328 bt336.1 bt336.2).bind fun t342 => (if t342 = true then ((laws_toIntS.f k l1).bind fun t343 => ((laws_eqIntS.f k t332 t343).bind fun t346 => (if t346 = true then (some true) else (some false)))) else (some false))))))) = some r := H
   have A13 := Aside0.mk A130
   clear A130
   replace H := Option.bind_eq_some_iff.mp H
   obtain ⟨t332, A140, H⟩ := H
   replace H : ((impl_RulesSet.f k t325 t328 t332).bind fun t335 => (if (t335 != t324) = true then (some false) else ((laws_toSystem.f k l0_0 l0_1).bind fun bt336 => ((laws_eqSystem.f k t325 t328 bt336.1 bt336.2).bind fun t342 => (if t342 = true then ((laws_toIntS.f k l1).bind fun t343 => ((laws_eqIntS.f k t332 t343).bind fun t346 => (if t346 = true then (some true) else (some false)))) else (some false)))))) = some r := H
   have A14 := Aside0.mk A140
   clear A140
   replace H := Option.bind_eq_some_iff.mp H
   obtain ⟨t335, A150, H⟩ := H
   replace H : (if (t335 != t324) = true then (some false) else ((laws_toSystem.f k l0_0 l0_1).bind fun bt336 => ((laws_eqSystem.f k t325 t328 bt336.1 bt336.2).bind fun t342 => (if t342 = true then ((laws_toIntS.f k l1).bind fun t343 => ((laws_eqIntS.f k t332 t343).bind fun t346 => (if t346 = true then (some true) else (some false)))) else (some false))))) = some r := H
   have A15 := Aside0.mk A150
   clear A150
   by_cases c16 : (t335 != t324) = true
   ·rw [if_pos c16] at H
    have c16b0 : (t335 != t324) = true := c16
    (try (have c16b1 : decide (t335 = t324) = false := by simpa using c16))
    (try (have c16b2 : (t335 == t324) = false := by simpa using c16))
    (try (have c16b3 : ¬ (t335 = t324) := by simpa using c16))
    clear c16
    obtain rfl := Option.some.inj H
    go_enter Try.func9, Try.ntmps9
    go_wp2_with (first | ((with_reducible refine gate_dst (N := 2) rfl ?_); refine box_event ?hg (N := 2) ?hd (cs := #[.slice A0_0 l0_0.length c0_0, .slice A0_1 l0_1.length c0_1]) (t := 52) ?hr ?_; (case hd => rfl); (case hg => rfl); (case hr => first | (go_simp; done) | (go_simp; rfl)); intro gb313 hg w17 hbox hb; have n0_ := Aside0.mk (below_step (by repeat (first | (with_reducible first | exact HB.out | apply bwA | apply bwN | apply bwD) | exact HB.out)) hb); have n1_ := Aside0.mk (hbox); have n2_ := Aside0.mk ((by rw [hg]; exact (below_size (by repeat (first | (with_reducible first | exact HB.out | apply bwA | apply bwN | apply bwD) | exact HB.out))) : w.heap.size ≤ gb313)); have n3_ := Aside0.mk ((by rw [hg]; exact (below_size (by repeat (first | (with_reducible first | exact HB.out | apply bwA | apply bwN | apply bwD) | exact HB.out))) : w.heap.size ≤ gb313)); clear HB; have HB := n0_; have BK313 := n1_; have GW313 := n2_; have GE313 := n3_; clear n0_ n1_ n2_ n3_; clear hb hbox hg; have hcz18_0 : w17.cell? ⟨gb313, 0, none⟩ = some (.slice A0_0 l0_0.length c0_0) := (blk_cell BK313.out 0).trans rfl; have hcz18_1 : w17.cell? ⟨gb313, 1, none⟩ = some (.slice A0_1 l0_1.length c0_1) := (blk_cell BK313.out 1).trans rfl; have hfz18_0 := blk_frozen BK313.out 0; have hfz18_1 := blk_frozen BK313.out 1) | ((with_reducible refine gate_callee (f := 33) rfl ?_); refine goesL_ (some 15) rfl rfl Try.func33 (by kernel_rfl) rfl #[.agg #[.slice A0_0 l0_0.length c0_0, .slice A0_1 l0_1.length c0_1], .int .i64 1048576] rfl lmB ?_; (with_reducible refine (laws_szSystem.calls k _ _ l0_0 _ _ l0_1 1048576 t314 _ ?side1 ?side2 ?side3 ?side4 A5.out).mono ?_); (case side1 => repeat (first | exact (Kd.C_below HR0_0.out HB.out) | (with_reducible refine Kd.C_alloc ?_ _) | (with_reducible refine Kd.C_drewN ?_ _) | (with_reducible refine Kd.C_drew ?_))); (case side2 => exact HC0_0.out); (case side3 => repeat (first | exact (Kd.C_below HR0_1.out HB.out) | (with_reducible refine Kd.C_alloc ?_ _) | (with_reducible refine Kd.C_drewN ?_ _) | (with_reducible refine Kd.C_drew ?_))); (case side4 => exact HC0_1.out); rintro e w19 ⟨rfl, hb⟩; refine ⟨_, rfl, ?_⟩; have n0_ := Aside0.mk (blk_below (g := gb313) (o := .cells #[.slice A0_0 l0_0.length c0_0, .slice A0_1 l0_1.length c0_1] 52 (0, 0)) (bvK BK313.out) hb); have n1_ := Aside0.mk (below_step (by repeat (first | (with_reducible first | exact HB.out | apply bwA | apply bwN | apply bwD | refine below_set ?_ GE313.out) | exact HB.out)) hb); clear BK313; clear HB; have BK313 := n0_; have HB := n1_; clear n0_ n1_; (try clear hb); (try clear hb2); (try clear hk); (try clear hi); have hcz20_0 : w19.cell? ⟨gb313, 0, none⟩ = some (.slice A0_0 l0_0.length c0_0) := (blk_cell BK313.out 0).trans rfl; have hcz20_1 : w19.cell? ⟨gb313, 1, none⟩ = some (.slice A0_1 l0_1.length c0_1) := (blk_cell BK313.out 1).trans rfl; have hfz20_0 := blk_frozen BK313.out 0; have hfz20_1 := blk_frozen BK313.out 1) | ((with_reducible refine gate_callee (f := 35) rfl ?_); refine goesL_ (some 19) rfl rfl Try.func35 (by kernel_rfl) rfl #[.agg #[.slice A0_0 l0_0.length c0_0, .slice A0_1 l0_1.length c0_1]] rfl lmB ?_; (with_reducible refine (laws_toSystem.calls k _ _ l0_0 _ _ l0_1 t315 t318 _ ?side1 ?side2 ?side3 ?side4 A10.out).mono ?_); (case side1 => repeat (first | exact (Kd.C_below HR0_0.out HB.out) | (with_reducible refine Kd.C_alloc ?_ _) | (with_reducible refine Kd.C_drewN ?_ _) | (with_reducible refine Kd.C_drew ?_))); (case side2 => exact HC0_0.out); (case side3 => repeat (first | exact (Kd.C_below HR0_1.out HB.out) | (with_reducible refine Kd.C_alloc ?_ _) | (with_reducible refine Kd.C_drewN ?_ _) | (with_reducible refine Kd.C_drew ?_))); (case side4 => exact HC0_1.out); rintro e w21 ⟨v316, v319, rfl, ho0, ho1, hb⟩; refine ⟨_, rfl, ?_⟩; have n0_ := Aside0.mk (Kd.R_lower ho0 (below_size (by repeat (first | (with_reducible first | exact HB.out | apply bwA | apply bwN | apply bwD | refine below_set ?_ GE313.out) | exact HB.out)))); have n1_ := Aside0.mk (Kd.R_lower ho1 (below_size (by repeat (first | (with_reducible first | exact HB.out | apply bwA | apply bwN | apply bwD | refine below_set ?_ GE313.out) | exact HB.out)))); have n2_ := Aside0.mk (blk_below (g := gb313) (o := .cells #[.slice A0_0 l0_0.length c0_0, .slice A0_1 l0_1.length c0_1] 52 (0, 0)) (bvK BK313.out) hb); have n3_ := Aside0.mk (below_step (by repeat (first | (with_reducible first | exact HB.out | apply bwA | apply bwN | apply bwD | refine below_set ?_ GE313.out) | exact HB.out)) hb); clear BK313; clear HB; have HO317 := n0_; have HO320 := n1_; have BK313 := n2_; have HB := n3_; clear n0_ n1_ n2_ n3_; (try clear hb); (try clear hb2); (try clear hk); (try clear hi); (try clear ho0); (try clear ho1)) | ((with_reducible refine gate_callee (f := 16) rfl ?_); refine goesL_ (some 21) rfl rfl Try.func16 (by kernel_rfl) rfl #[.slice A1 l1.length c1] rfl lmB ?_; (with_reducible refine (laws_toIntS.calls k _ _ l1 t321 _ ?side1 ?side2 A11.out).mono ?_); (case side1 => repeat (first | exact (Kd.C_below HR1.out HB.out) | (with_reducible refine Kd.C_alloc ?_ _) | (with_reducible refine Kd.C_drewN ?_ _) | (with_reducible refine Kd.C_drew ?_))); (case side2 => exact HC1.out); rintro e w22 ⟨v322, rfl, ho0, hb⟩; refine ⟨_, rfl, ?_⟩; have n0_ := Aside0.mk (Kd.R_below (rvR HO317.out) hb); have n1_ := Aside0.mk (Kd.R_elder' (rvR HO320.out) (Kd.R_base ho0) hb); have n2_ := Aside0.mk (Kd.R_lower ho0 (below_size (by repeat (first | (with_reducible first | exact HB.out | apply bwA | apply bwN | apply bwD | refine below_set ?_ GE313.out) | exact HB.out)))); have n3_ := Aside0.mk (blk_below (g := gb313) (o := .cells #[.slice A0_0 l0_0.length c0_0, .slice A0_1 l0_1.length c0_1] 52 (0, 0)) (bvK BK313.out) hb); have n4_ := Aside0.mk (below_step (by repeat (first | (with_reducible first | exact HB.out | apply bwA | apply bwN | apply bwD | refine below_set ?_ GE313.out) | exact HB.out)) hb); clear HO317; clear HO320; clear BK313; clear HB; have HO317 := n0_; have HO320 := n1_; have HO323 := n2_; have BK313 := n3_; have HB := n4_; clear n0_ n1_ n2_ n3_ n4_; (try clear hb); (try clear hb2); (try clear hk); (try clear hi); (try clear ho0); obtain ⟨Ao23, co23, eo23⟩ := Kd.R_slice HO317.out; subst eo23; obtain ⟨Ao24, co24, eo24⟩ := Kd.R_slice HO320.out; subst eo24; obtain ⟨Ao25, co25, eo25⟩ := Kd.R_slice HO323.out; subst eo25) | ((with_reducible refine gate_callee (f := 38) rfl ?_); refine goesL_ (some 22) rfl rfl Try.func38 (by kernel_rfl) rfl #[.agg #[.slice Ao23 t315.length co23, .slice Ao24 t318.length co24], .slice Ao25 t321.length co25] rfl lmB ?_; (with_reducible refine (spec_RulesSet.calls k _ _ t315 _ _ t318 _ _ t321 t324 _ ?side1 ?side2 ?side3 ?side4 ?side5 ?side6 A12.out).mono ?_); (case side1 => repeat (first | exact (Kd.R_reads' HO317.out).2.2 | (with_reducible refine Kd.C_alloc ?_ _) | (with_reducible refine Kd.C_drewN ?_ _) | (with_reducible refine Kd.C_drew ?_))); (case side2 => exact (Kd.R_reads' HO317.out).2.1); (case side3 => repeat (first | exact (Kd.R_reads' HO320.out).2.2 | (with_reducible refine Kd.C_alloc ?_ _) | (with_reducible refine Kd.C_drewN ?_ _) | (with_reducible refine Kd.C_drew ?_))); (case side4 => exact (Kd.R_reads' HO320.out).2.1); (case side5 => repeat (first | exact (Kd.R_reads' HO323.out).2.2 | (with_reducible refine Kd.C_alloc ?_ _) | (with_reducible refine Kd.C_drewN ?_ _) | (with_reducible refine Kd.C_drew ?_))); (case side6 => exact (Kd.R_reads' HO323.out).2.1); rintro e w26 ⟨rfl, hb⟩; refine ⟨_, rfl, ?_⟩; have n0_ := Aside0.mk (Kd.R_below (rvR HO317.out) hb); have n1_ := Aside0.mk (Kd.R_below (rvR HO320.out) hb); have n2_ := Aside0.mk (Kd.R_below (rvR HO323.out) hb); have n3_ := Aside0.mk (blk_below (g := gb313) (o := .cells #[.slice A0_0 l0_0.length c0_0, .slice A0_1 l0_1.length c0_1] 52 (0, 0)) (bvK BK313.out) hb); have n4_ := Aside0.mk (below_step (by repeat (first | (with_reducible first | exact HB.out | apply bwA | apply bwN | apply bwD | refine below_set ?_ GE313.out) | exact HB.out)) hb); clear HO317; clear HO320; clear HO323; clear BK313; clear HB; have HO317 := n0_; have HO320 := n1_; have HO323 := n2_; have BK313 := n3_; have HB := n4_; clear n0_ n1_ n2_ n3_ n4_; (try clear hb); (try clear hb2); (try clear hk); (try clear hi); have hcz27_0 : w26.cell? ⟨gb313, 0, none⟩ = some (.slice A0_0 l0_0.length c0_0) := (blk_cell BK313.out 0).trans rfl; have hcz27_1 : w26.cell? ⟨gb313, 1, none⟩ = some (.slice A0_1 l0_1.length c0_1) := (blk_cell BK313.out 1).trans rfl; have hfz27_0 := blk_frozen BK313.out 0; have hfz27_1 := blk_frozen BK313.out 1) | ((with_reducible refine gate_callee (f := 35) rfl ?_); refine goesL_ (some 24) rfl rfl Try.func35 (by kernel_rfl) rfl #[.agg #[.slice A0_0 l0_0.length c0_0, .slice A0_1 l0_1.length c0_1]] rfl lmB ?_; (with_reducible refine (laws_toSystem.calls k _ _ l0_0 _ _ l0_1 t325 t328 _ ?side1 ?side2 ?side3 ?side4 A13.out).mono ?_); (case side1 => repeat (first | exact (Kd.C_below HR0_0.out HB.out) | (with_reducible refine Kd.C_alloc ?_ _) | (with_reducible refine Kd.C_drewN ?_ _) | (with_reducible refine Kd.C_drew ?_))); (case side2 => exact HC0_0.out); (case side3 => repeat (first | exact (Kd.C_below HR0_1.out HB.out) | (with_reducible refine Kd.C_alloc ?_ _) | (with_reducible refine Kd.C_drewN ?_ _) | (with_reducible refine Kd.C_drew ?_))); (case side4 => exact HC0_1.out); rintro e w28 ⟨v326, v329, rfl, ho0, ho1, hb⟩; refine ⟨_, rfl, ?_⟩; have n0_ := Aside0.mk (Kd.R_elder' (rvR HO317.out) (Kd.R_base ho0) hb); have n1_ := Aside0.mk (Kd.R_elder' (rvR HO320.out) (Kd.R_base ho1) hb); have n2_ := Aside0.mk (Kd.R_below (rvR HO323.out) hb); have n3_ := Aside0.mk (Kd.R_lower (Kd.R_new' ho0 (Kd.R_lt (rvR HO317.out))) (below_size (by repeat (first | (with_reducible first | exact HB.out | apply bwA | apply bwN | apply bwD | refine below_set ?_ GE313.out) | exact HB.out)))); have n4_ := Aside0.mk (Kd.R_lower (Kd.R_new' (Kd.R_new' ho1 (Kd.R_lt (rvR HO320.out))) (Kd.R_lt (rvR HO323.out))) (below_size (by repeat (first | (with_reducible first | exact HB.out | apply bwA | apply bwN | apply bwD | refine below_set ?_ GE313.out) | exact HB.out)))); have n5_ := Aside0.mk (blk_below (g := gb313) (o := .cells #[.slice A0_0 l0_0.length c0_0, .slice A0_1 l0_1.length c0_1] 52 (0, 0)) (bvK BK313.out) hb); have n6_ := Aside0.mk (below_step (by repeat (first | (with_reducible first | exact HB.out | apply bwA | apply bwN | apply bwD | refine below_set ?_ GE313.out) | exact HB.out)) hb); clear HO317; clear HO320; clear HO323; clear BK313; clear HB; have HO317 := n0_; have HO320 := n1_; have HO323 := n2_; have HO327 := n3_; have HO330 := n4_; have BK313 := n5_; have HB := n6_; clear n0_ n1_ n2_ n3_ n4_ n5_ n6_; (try clear hb); (try clear hb2); (try clear hk); (try clear hi); (try clear ho0); (try clear ho1)) | ((with_reducible refine gate_dst (N := 7) rfl ?_); refine box_event ?hg (N := 7) ?hd (cs := #[.slice none 0 0, .slice none 0 0]) (t := 58) ?hr ?_; (case hd => rfl); (case hg => rfl); (case hr => first | (go_simp; done) | (go_simp; rfl)); intro gb331 hg w29 hbox hb; have n0_ := Aside0.mk (Kd.R_below (rvR HO317.out) hb); have n1_ := Aside0.mk (Kd.R_below (rvR HO320.out) hb); have n2_ := Aside0.mk (Kd.R_below (rvR HO323.out) hb); have n3_ := Aside0.mk (Kd.R_below (rvR HO327.out) hb); have n4_ := Aside0.mk (Kd.R_below (rvR HO330.out) hb); have n5_ := Aside0.mk (blk_below (g := gb313) (o := .cells #[.slice A0_0 l0_0.length c0_0, .slice A0_1 l0_1.length c0_1] 52 (0, 0)) (bvK BK313.out) hb); have n6_ := Aside0.mk (below_step (by repeat (first | (with_reducible first | exact HB.out | apply bwA | apply bwN | apply bwD | refine below_set ?_ GE313.out) | exact HB.out)) hb); have n7_ := Aside0.mk (hbox); have n8_ := Aside0.mk ((by rw [hg]; exact (below_size (by repeat (first | (with_reducible first | exact HB.out | apply bwA | apply bwN | apply bwD | refine below_set ?_ GE313.out) | exact HB.out))) : w.heap.size ≤ gb331)); have n9_ := Aside0.mk ((by rw [hg]; exact (below_size (by repeat (first | (with_reducible first | exact HB.out | apply bwA | apply bwN | apply bwD | refine below_set ?_ GE313.out) | exact HB.out))) : w.heap.size ≤ gb331)); have n10_ := Aside0.mk ((by rw [hg]; exact Nat.ne_of_lt (blk_lt (g := gb313) (o := .cells #[.slice A0_0 l0_0.length c0_0, .slice A0_1 l0_1.length c0_1] 52 (0, 0)) (bvK BK313.out)) : gb313 ≠ gb331)); have n11_ := Aside0.mk ((by rw [hg]; exact Nat.ne_of_gt (blk_lt (g := gb313) (o := .cells #[.slice A0_0 l0_0.length c0_0, .slice A0_1 l0_1.length c0_1] 52 (0, 0)) (bvK BK313.out)) : gb331 ≠ gb313)); clear HO317; clear HO320; clear HO323; clear HO327; clear HO330; clear BK313; clear HB; have HO317 := n0_; have HO320 := n1_; have HO323 := n2_; have HO327 := n3_; have HO330 := n4_; have BK313 := n5_; have HB := n6_; have BK331 := n7_; have GW331 := n8_; have GE331 := n9_; have NB313_331 := n10_; have NB331_313 := n11_; clear n0_ n1_ n2_ n3_ n4_ n5_ n6_ n7_ n8_ n9_ n10_ n11_; clear hb hbox hg; obtain ⟨Ao30, co30, eo30⟩ := Kd.R_slice HO327.out; subst eo30; have hnb31 := NB331_313.out; have hnc31 := NB313_331.out; have hcz32_0 : w29.cell? ⟨gb331, 0, none⟩ = some (.slice none 0 0) := (blk_cell BK331.out 0).trans rfl; have hcz32_1 : w29.cell? ⟨gb331, 1, none⟩ = some (.slice none 0 0) := (blk_cell BK331.out 1).trans rfl; have hfz32_0 := blk_frozen BK331.out 0; have hfz32_1 := blk_frozen BK331.out 1; obtain ⟨Ao33, co33, eo33⟩ := Kd.R_slice HO330.out; subst eo33) | ((with_reducible refine gate_callee (f := 16) rfl ?_); refine goesL_ (some 26) rfl rfl Try.func16 (by kernel_rfl) rfl #[.slice A1 l1.length c1] rfl lmB ?_; (with_reducible refine (laws_toIntS.calls k _ _ l1 t332 _ ?side1 ?side2 A14.out).mono ?_); (case side1 => exact Kd.C_below HR1.out (by repeat (first | (with_reducible first | exact HB.out | apply bwA | apply bwN | apply bwD | refine below_set ?_ GE313.out | refine below_set ?_ GE331.out) | exact HB.out))); (case side2 => exact HC1.out); rintro e w34 ⟨v333, rfl, ho0, hb⟩; refine ⟨_, rfl, ?_⟩; have n0_ := Aside0.mk (Kd.R_below (by (with_reducible repeat (first | apply Kd.R_alloc | apply Kd.R_drewN | apply Kd.R_drew)); exact (Kd.R_mono (Kd.R_far (p := ⟨gb331, 1, none⟩) (Kd.R_far (p := ⟨gb331, 0, none⟩) (Kd.R_types HO317.out BK331.out (by decide)) (fun _ hk => hk.2) (.slice Ao30 t325.length co30)) (fun _ hk => hk.2) (.slice Ao33 t328.length co33)) (fun _ h_ => h_.1))) hb); have n1_ := Aside0.mk (Kd.R_elder' (by (with_reducible repeat (first | apply Kd.R_alloc | apply Kd.R_drewN | apply Kd.R_drew)); exact (Kd.R_mono (Kd.R_far (p := ⟨gb331, 1, none⟩) (Kd.R_far (p := ⟨gb331, 0, none⟩) (Kd.R_types HO320.out BK331.out (by decide)) (fun _ hk => hk.2) (.slice Ao30 t325.length co30)) (fun _ hk => hk.2) (.slice Ao33 t328.length co33)) (fun _ h_ => h_.1))) (Kd.R_base ho0) hb); have n2_ := Aside0.mk (Kd.R_elder' (by (with_reducible repeat (first | apply Kd.R_alloc | apply Kd.R_drewN | apply Kd.R_drew)); exact (Kd.R_mono (Kd.R_far (p := ⟨gb331, 1, none⟩) (Kd.R_far (p := ⟨gb331, 0, none⟩) (Kd.R_types HO323.out BK331.out (by decide)) (fun _ hk => hk.2) (.slice Ao30 t325.length co30)) (fun _ hk => hk.2) (.slice Ao33 t328.length co33)) (fun _ h_ => h_.1))) (Kd.R_base ho0) hb); have n3_ := Aside0.mk (Kd.R_below (by (with_reducible repeat (first | apply Kd.R_alloc | apply Kd.R_drewN | apply Kd.R_drew)); exact (Kd.R_mono (Kd.R_far (p := ⟨gb331, 1, none⟩) (Kd.R_far (p := ⟨gb331, 0, none⟩) (Kd.R_types HO327.out BK331.out (by decide)) (fun _ hk => hk.2) (.slice Ao30 t325.length co30)) (fun _ hk => hk.2) (.slice Ao33 t328.length co33)) (fun _ h_ => h_.1))) hb); have n4_ := Aside0.mk (Kd.R_elder' (by (with_reducible repeat (first | apply Kd.R_alloc | apply Kd.R_drewN | apply Kd.R_drew)); exact (Kd.R_mono (Kd.R_far (p := ⟨gb331, 1, none⟩) (Kd.R_far (p := ⟨gb331, 0, none⟩) (Kd.R_types HO330.out BK331.out (by decide)) (fun _ hk => hk.2) (.slice Ao30 t325.length co30)) (fun _ hk => hk.2) (.slice Ao33 t328.length co33)) (fun _ h_ => h_.1))) (Kd.R_base ho0) hb); have n5_ := Aside0.mk (Kd.R_lower (Kd.R_new' ho0 (Kd.R_lt (by (with_reducible repeat (first | apply Kd.R_alloc | apply Kd.R_drewN | apply Kd.R_drew)); exact (Kd.R_mono (Kd.R_far (p := ⟨gb331, 1, none⟩) (Kd.R_far (p := ⟨gb331, 0, none⟩) (Kd.R_types HO323.out BK331.out (by decide)) (fun _ hk => hk.2) (.slice Ao30 t325.length co30)) (fun _ hk => hk.2) (.slice Ao33 t328.length co33)) (fun _ h_ => h_.1))))) (below_size (by repeat (first | (with_reducible first | exact HB.out | apply bwA | apply bwN | apply bwD | refine below_set ?_ GE313.out | refine below_set ?_ GE331.out) | exact HB.out)))); have n6_ := Aside0.mk (blk_below (g := gb313) (o := .cells #[.slice A0_0 l0_0.length c0_0, .slice A0_1 l0_1.length c0_1] 52 (0, 0)) (by (with_reducible repeat (first | refine blk_drewN ?_ _ | refine blk_drew ?_ | refine blk_alloc ?_ _)); refine blk_far ?_ NB313_331.out _; (with_reducible repeat (first | refine blk_drewN ?_ _ | refine blk_drew ?_ | refine blk_alloc ?_ _)); refine blk_far ?_ NB313_331.out _; (with_reducible repeat (first | refine blk_drewN ?_ _ | refine blk_drew ?_ | refine blk_alloc ?_ _)); exact BK313.out) hb); have n7_ := Aside0.mk (blk_below (g := gb331) (o := .cells #[.slice Ao30 t325.length co30, .slice Ao33 t328.length co33] 58 (0, 0)) (by (with_reducible repeat (first | refine blk_drewN ?_ _ | refine blk_drew ?_ | refine blk_alloc ?_ _)); refine blk_put (cs := #[.slice Ao30 t325.length co30, .slice none 0 0]) ?_ 1 _ rfl; (with_reducible repeat (first | refine blk_drewN ?_ _ | refine blk_drew ?_ | refine blk_alloc ?_ _)); refine blk_put (cs := #[.slice none 0 0, .slice none 0 0]) ?_ 0 _ rfl; (with_reducible repeat (first | refine blk_drewN ?_ _ | refine blk_drew ?_ | refine blk_alloc ?_ _)); exact BK331.out) hb); have n8_ := Aside0.mk (below_step (by repeat (first | (with_reducible first | exact HB.out | apply bwA | apply bwN | apply bwD | refine below_set ?_ GE313.out | refine below_set ?_ GE331.out) | exact HB.out)) hb); clear HO317; clear HO320; clear HO323; clear HO327; clear HO330; clear BK313; clear BK331; clear HB; have HO317 := n0_; have HO320 := n1_; have HO323 := n2_; have HO327 := n3_; have HO330 := n4_; have HO334 := n5_; have BK313 := n6_; have BK331 := n7_; have HB := n8_; clear n0_ n1_ n2_ n3_ n4_ n5_ n6_ n7_ n8_; (try clear hb); (try clear hb2); (try clear hk); (try clear hi); (try clear ho0); have hcz35_0 : w34.cell? ⟨gb331, 0, none⟩ = some (.slice Ao30 t325.length co30) := (blk_cell BK331.out 0).trans rfl; have hcz35_1 : w34.cell? ⟨gb331, 1, none⟩ = some (.slice Ao33 t328.length co33) := (blk_cell BK331.out 1).trans rfl; have hfz35_0 := blk_frozen BK331.out 0; have hfz35_1 := blk_frozen BK331.out 1; obtain ⟨Ao36, co36, eo36⟩ := Kd.R_slice HO334.out; subst eo36) | ((with_reducible refine gate_callee (f := 39) rfl ?_); refine goesL_ (some 29) rfl rfl Try.func39 (by kernel_rfl) rfl #[.agg #[.slice Ao30 t325.length co30, .slice Ao33 t328.length co33], .slice Ao36 t332.length co36] rfl lmB ?_; (with_reducible refine (impl_RulesSet.calls k _ _ t325 _ _ t328 _ _ t332 t335 _ ?side1 ?side2 ?side3 ?side4 ?side5 ?side6 A15.out).mono ?_); (case side1 => repeat (first | exact (Kd.R_reads' HO327.out).2.2 | (with_reducible refine Kd.C_alloc ?_ _) | (with_reducible refine Kd.C_drewN ?_ _) | (with_reducible refine Kd.C_drew ?_))); (case side2 => exact (Kd.R_reads' HO327.out).2.1); (case side3 => repeat (first | exact (Kd.R_reads' HO330.out).2.2 | (with_reducible refine Kd.C_alloc ?_ _) | (with_reducible refine Kd.C_drewN ?_ _) | (with_reducible refine Kd.C_drew ?_))); (case side4 => exact (Kd.R_reads' HO330.out).2.1); (case side5 => repeat (first | exact (Kd.R_reads' HO334.out).2.2 | (with_reducible refine Kd.C_alloc ?_ _) | (with_reducible refine Kd.C_drewN ?_ _) | (with_reducible refine Kd.C_drew ?_))); (case side6 => exact (Kd.R_reads' HO334.out).2.1); rintro e w37 ⟨rfl, hb⟩; refine ⟨_, rfl, ?_⟩; have n0_ := Aside0.mk (Kd.R_below (rvR HO317.out) hb); have n1_ := Aside0.mk (Kd.R_below (rvR HO320.out) hb); have n2_ := Aside0.mk (Kd.R_below (rvR HO323.out) hb); have n3_ := Aside0.mk (Kd.R_below (rvR HO327.out) hb); have n4_ := Aside0.mk (Kd.R_below (rvR HO330.out) hb); have n5_ := Aside0.mk (Kd.R_below (rvR HO334.out) hb); have n6_ := Aside0.mk (blk_below (g := gb313) (o := .cells #[.slice A0_0 l0_0.length c0_0, .slice A0_1 l0_1.length c0_1] 52 (0, 0)) (bvK BK313.out) hb); have n7_ := Aside0.mk (blk_below (g := gb331) (o := .cells #[.slice Ao30 t325.length co30, .slice Ao33 t328.length co33] 58 (0, 0)) (bvK BK331.out) hb); have n8_ := Aside0.mk (below_step (by repeat (first | (with_reducible first | exact HB.out | apply bwA | apply bwN | apply bwD | refine below_set ?_ GE313.out | refine below_set ?_ GE331.out) | exact HB.out)) hb); clear HO317; clear HO320; clear HO323; clear HO327; clear HO330; clear HO334; clear BK313; clear BK331; clear HB; have HO317 := n0_; have HO320 := n1_; have HO323 := n2_; have HO327 := n3_; have HO330 := n4_; have HO334 := n5_; have BK313 := n6_; have BK331 := n7_; have HB := n8_; clear n0_ n1_ n2_ n3_ n4_ n5_ n6_ n7_ n8_; (try clear hb); (try clear hb2); (try clear hk); (try clear hi)))
    go_ret
    exact ⟨ers, by repeat (first | (with_reducible first | exact HB.out | apply bwA | apply bwN | apply bwD | refine below_set ?_ GE313.out | refine below_set ?_ GE331.out) | exact HB.out)⟩
   ·rw [if_neg c16] at H
    have c16b0 : (t335 != t324) = false := by simpa using c16
    (try (have c16b1 : decide (t335 = t324) = true := by simpa using c16))
    (try (have c16b2 : (t335 == t324) = true := by simpa using c16))
    clear c16
    replace H := Option.bind_eq_some_iff.mp H
    obtain ⟨⟨t336, t339⟩, A380, H⟩ := H
    replace H : ((laws_eqSystem.f k t325 t328 t336 t339).bind fun t342 => (if t342 = true then ((laws_toIntS.f k l1).bind fun t343 => ((laws_eqIntS.f k t332 t343).bind fun t346 => (if t346 = true then (some true) else (some false)))) else (some false))) = some r := H
    have A38 := Aside0.mk A380
    clear A380
    replace H := Option.bind_eq_some_iff.mp H
    obtain ⟨t342, A390, H⟩ := H
    replace H : (if t342 = true then ((laws_toIntS.f k l1).bind fun t343 => ((laws_eqIntS.f k t332 t343).bind fun t346 => (if t346 = true then (some true) else (some false)))) else (some false)) = some r := H
    have A39 := Aside0.mk A390
    clear A390
    by_cases c40 : t342 = true
    ·subst c40
     have H1 : ((laws_toIntS.f k l1).bind fun t343 => ((laws_eqIntS.f k t332 t343).bind fun t346 => (if t346 = true then (some true) else (some false)))) = some r := by rw [if_pos rfl] at H; exact H
     clear H
     have H := H1
     clear H1
     replace H := Option.bind_eq_some_iff.mp H
     obtain ⟨t343, A410, H⟩ := H
     replace H : ((laws_eqIntS.f k t332 t343).bind fun t346 => (if t346 = true then (some true) else (some false))) = some r := H
     have A41 := Aside0.mk A410
     clear A410
     replace H := Option.bind_eq_some_iff.mp H
     obtain ⟨t346, A420, H⟩ := H
     replace H : (if t346 = true then (some true) else (some false)) = some r := H
     have A42 := Aside0.mk A420
     clear A420
     by_cases c43 : t346 = true
     ·subst c43
      have H1 : (some true) = some r := by rw [if_pos rfl] at H; exact H
      clear H
      have H := H1
      clear H1
      obtain rfl := Option.some.inj H
      go_enter Try.func9, Try.ntmps9
      try go_wp2_with (first | ((with_reducible refine gate_dst (N := 2) rfl ?_); refine box_event ?hg (N := 2) ?hd (cs := #[.slice A0_0 l0_0.length c0_0, .slice A0_1 l0_1.length c0_1]) (t := 52) ?hr ?_; (case hd => rfl); (case hg => rfl); (case hr => first | (go_simp; done) | (go_simp; rfl)); intro gb313 hg w44 hbox hb; have n0_ := Aside0.mk (below_step (by repeat (first | (with_reducible first | exact HB.out | apply bwA | apply bwN | apply bwD) | exact HB.out)) hb); have n1_ := Aside0.mk (hbox); have n2_ := Aside0.mk ((by rw [hg]; exact (below_size (by repeat (first | (with_reducible first | exact HB.out | apply bwA | apply bwN | apply bwD) | exact HB.out))) : w.heap.size ≤ gb313)); have n3_ := Aside0.mk ((by rw [hg]; exact (below_size (by repeat (first | (with_reducible first | exact HB.out | apply bwA | apply bwN | apply bwD) | exact HB.out))) : w.heap.size ≤ gb313)); clear HB; have HB := n0_; have BK313 := n1_; have GW313 := n2_; have GE313 := n3_; clear n0_ n1_ n2_ n3_; clear hb hbox hg; have hcz45_0 : w44.cell? ⟨gb313, 0, none⟩ = some (.slice A0_0 l0_0.length c0_0) := (blk_cell BK313.out 0).trans rfl; have hcz45_1 : w44.cell? ⟨gb313, 1, none⟩ = some (.slice A0_1 l0_1.length c0_1) := (blk_cell BK313.out 1).trans rfl; have hfz45_0 := blk_frozen BK313.out 0; have hfz45_1 := blk_frozen BK313.out 1) | ((with_reducible refine gate_callee (f := 33) rfl ?_); refine goesL_ (some 15) rfl rfl Try.func33 (by kernel_rfl) rfl #[.agg #[.slice A0_0 l0_0.length c0_0, .slice A0_1 l0_1.length c0_1], .int .i64 1048576] rfl lmB ?_; (with_reducible refine (laws_szSystem.calls k _ _ l0_0 _ _ l0_1 1048576 t314 _ ?side1 ?side2 ?side3 ?side4 A5.out).mono ?_); (case side1 => repeat (first | exact (Kd.C_below HR0_0.out HB.out) | (with_reducible refine Kd.C_alloc ?_ _) | (with_reducible refine Kd.C_drewN ?_ _) | (with_reducible refine Kd.C_drew ?_))); (case side2 => exact HC0_0.out); (case side3 => repeat (first | exact (Kd.C_below HR0_1.out HB.out) | (with_reducible refine Kd.C_alloc ?_ _) | (with_reducible refine Kd.C_drewN ?_ _) | (with_reducible refine Kd.C_drew ?_))); (case side4 => exact HC0_1.out); rintro e w46 ⟨rfl, hb⟩; refine ⟨_, rfl, ?_⟩; have n0_ := Aside0.mk (blk_below (g := gb313) (o := .cells #[.slice A0_0 l0_0.length c0_0, .slice A0_1 l0_1.length c0_1] 52 (0, 0)) (bvK BK313.out) hb); have n1_ := Aside0.mk (below_step (by repeat (first | (with_reducible first | exact HB.out | apply bwA | apply bwN | apply bwD | refine below_set ?_ GE313.out) | exact HB.out)) hb); clear BK313; clear HB; have BK313 := n0_; have HB := n1_; clear n0_ n1_; (try clear hb); (try clear hb2); (try clear hk); (try clear hi); have hcz47_0 : w46.cell? ⟨gb313, 0, none⟩ = some (.slice A0_0 l0_0.length c0_0) := (blk_cell BK313.out 0).trans rfl; have hcz47_1 : w46.cell? ⟨gb313, 1, none⟩ = some (.slice A0_1 l0_1.length c0_1) := (blk_cell BK313.out 1).trans rfl; have hfz47_0 := blk_frozen BK313.out 0; have hfz47_1 := blk_frozen BK313.out 1) | ((with_reducible refine gate_callee (f := 35) rfl ?_); refine goesL_ (some 19) rfl rfl Try.func35 (by kernel_rfl) rfl #[.agg #[.slice A0_0 l0_0.length c0_0, .slice A0_1 l0_1.length c0_1]] rfl lmB ?_; (with_reducible refine (laws_toSystem.calls k _ _ l0_0 _ _ l0_1 t315 t318 _ ?side1 ?side2 ?side3 ?side4 A10.out).mono ?_); (case side1 => repeat (first | exact (Kd.C_below HR0_0.out HB.out) | (with_reducible refine Kd.C_alloc ?_ _) | (with_reducible refine Kd.C_drewN ?_ _) | (with_reducible refine Kd.C_drew ?_))); (case side2 => exact HC0_0.out); (case side3 => repeat (first | exact (Kd.C_below HR0_1.out HB.out) | (with_reducible refine Kd.C_alloc ?_ _) | (with_reducible refine Kd.C_drewN ?_ _) | (with_reducible refine Kd.C_drew ?_))); (case side4 => exact HC0_1.out); rintro e w48 ⟨v316, v319, rfl, ho0, ho1, hb⟩; refine ⟨_, rfl, ?_⟩; have n0_ := Aside0.mk (Kd.R_lower ho0 (below_size (by repeat (first | (with_reducible first | exact HB.out | apply bwA | apply bwN | apply bwD | refine below_set ?_ GE313.out) | exact HB.out)))); have n1_ := Aside0.mk (Kd.R_lower ho1 (below_size (by repeat (first | (with_reducible first | exact HB.out | apply bwA | apply bwN | apply bwD | refine below_set ?_ GE313.out) | exact HB.out)))); have n2_ := Aside0.mk (blk_below (g := gb313) (o := .cells #[.slice A0_0 l0_0.length c0_0, .slice A0_1 l0_1.length c0_1] 52 (0, 0)) (bvK BK313.out) hb); have n3_ := Aside0.mk (below_step (by repeat (first | (with_reducible first | exact HB.out | apply bwA | apply bwN | apply bwD | refine below_set ?_ GE313.out) | exact HB.out)) hb); clear BK313; clear HB; have HO317 := n0_; have HO320 := n1_; have BK313 := n2_; have HB := n3_; clear n0_ n1_ n2_ n3_; (try clear hb); (try clear hb2); (try clear hk); (try clear hi); (try clear ho0); (try clear ho1)) | ((with_reducible refine gate_callee (f := 16) rfl ?_); refine goesL_ (some 21) rfl rfl Try.func16 (by kernel_rfl) rfl #[.slice A1 l1.length c1] rfl lmB ?_; (with_reducible refine (laws_toIntS.calls k _ _ l1 t321 _ ?side1 ?side2 A11.out).mono ?_); (case side1 => repeat (first | exact (Kd.C_below HR1.out HB.out) | (with_reducible refine Kd.C_alloc ?_ _) | (with_reducible refine Kd.C_drewN ?_ _) | (with_reducible refine Kd.C_drew ?_))); (case side2 => exact HC1.out); rintro e w49 ⟨v322, rfl, ho0, hb⟩; refine ⟨_, rfl, ?_⟩; have n0_ := Aside0.mk (Kd.R_below (rvR HO317.out) hb); have n1_ := Aside0.mk (Kd.R_elder' (rvR HO320.out) (Kd.R_base ho0) hb); have n2_ := Aside0.mk (Kd.R_lower ho0 (below_size (by repeat (first | (with_reducible first | exact HB.out | apply bwA | apply bwN | apply bwD | refine below_set ?_ GE313.out) | exact HB.out)))); have n3_ := Aside0.mk (blk_below (g := gb313) (o := .cells #[.slice A0_0 l0_0.length c0_0, .slice A0_1 l0_1.length c0_1] 52 (0, 0)) (bvK BK313.out) hb); have n4_ := Aside0.mk (below_step (by repeat (first | (with_reducible first | exact HB.out | apply bwA | apply bwN | apply bwD | refine below_set ?_ GE313.out) | exact HB.out)) hb); clear HO317; clear HO320; clear BK313; clear HB; have HO317 := n0_; have HO320 := n1_; have HO323 := n2_; have BK313 := n3_; have HB := n4_; clear n0_ n1_ n2_ n3_ n4_; (try clear hb); (try clear hb2); (try clear hk); (try clear hi); (try clear ho0); obtain ⟨Ao50, co50, eo50⟩ := Kd.R_slice HO317.out; subst eo50; obtain ⟨Ao51, co51, eo51⟩ := Kd.R_slice HO320.out; subst eo51; obtain ⟨Ao52, co52, eo52⟩ := Kd.R_slice HO323.out; subst eo52) | ((with_reducible refine gate_callee (f := 38) rfl ?_); refine goesL_ (some 22) rfl rfl Try.func38 (by kernel_rfl) rfl #[.agg #[.slice Ao50 t315.length co50, .slice Ao51 t318.length co51], .slice Ao52 t321.length co52] rfl lmB ?_; (with_reducible refine (spec_RulesSet.calls k _ _ t315 _ _ t318 _ _ t321 t324 _ ?side1 ?side2 ?side3 ?side4 ?side5 ?side6 A12.out).mono ?_); (case side1 => repeat (first | exact (Kd.R_reads' HO317.out).2.2 | (with_reducible refine Kd.C_alloc ?_ _) | (with_reducible refine Kd.C_drewN ?_ _) | (with_reducible refine Kd.C_drew ?_))); (case side2 => exact (Kd.R_reads' HO317.out).2.1); (case side3 => repeat (first | exact (Kd.R_reads' HO320.out).2.2 | (with_reducible refine Kd.C_alloc ?_ _) | (with_reducible refine Kd.C_drewN ?_ _) | (with_reducible refine Kd.C_drew ?_))); (case side4 => exact (Kd.R_reads' HO320.out).2.1); (case side5 => repeat (first | exact (Kd.R_reads' HO323.out).2.2 | (with_reducible refine Kd.C_alloc ?_ _) | (with_reducible refine Kd.C_drewN ?_ _) | (with_reducible refine Kd.C_drew ?_))); (case side6 => exact (Kd.R_reads' HO323.out).2.1); rintro e w53 ⟨rfl, hb⟩; refine ⟨_, rfl, ?_⟩; have n0_ := Aside0.mk (Kd.R_below (rvR HO317.out) hb); have n1_ := Aside0.mk (Kd.R_below (rvR HO320.out) hb); have n2_ := Aside0.mk (Kd.R_below (rvR HO323.out) hb); have n3_ := Aside0.mk (blk_below (g := gb313) (o := .cells #[.slice A0_0 l0_0.length c0_0, .slice A0_1 l0_1.length c0_1] 52 (0, 0)) (bvK BK313.out) hb); have n4_ := Aside0.mk (below_step (by repeat (first | (with_reducible first | exact HB.out | apply bwA | apply bwN | apply bwD | refine below_set ?_ GE313.out) | exact HB.out)) hb); clear HO317; clear HO320; clear HO323; clear BK313; clear HB; have HO317 := n0_; have HO320 := n1_; have HO323 := n2_; have BK313 := n3_; have HB := n4_; clear n0_ n1_ n2_ n3_ n4_; (try clear hb); (try clear hb2); (try clear hk); (try clear hi); have hcz54_0 : w53.cell? ⟨gb313, 0, none⟩ = some (.slice A0_0 l0_0.length c0_0) := (blk_cell BK313.out 0).trans rfl; have hcz54_1 : w53.cell? ⟨gb313, 1, none⟩ = some (.slice A0_1 l0_1.length c0_1) := (blk_cell BK313.out 1).trans rfl; have hfz54_0 := blk_frozen BK313.out 0; have hfz54_1 := blk_frozen BK313.out 1) | ((with_reducible refine gate_callee (f := 35) rfl ?_); refine goesL_ (some 24) rfl rfl Try.func35 (by kernel_rfl) rfl #[.agg #[.slice A0_0 l0_0.length c0_0, .slice A0_1 l0_1.length c0_1]] rfl lmB ?_; (with_reducible refine (laws_toSystem.calls k _ _ l0_0 _ _ l0_1 t325 t328 _ ?side1 ?side2 ?side3 ?side4 A13.out).mono ?_); (case side1 => repeat (first | exact (Kd.C_below HR0_0.out HB.out) | (with_reducible refine Kd.C_alloc ?_ _) | (with_reducible refine Kd.C_drewN ?_ _) | (with_reducible refine Kd.C_drew ?_))); (case side2 => exact HC0_0.out); (case side3 => repeat (first | exact (Kd.C_below HR0_1.out HB.out) | (with_reducible refine Kd.C_alloc ?_ _) | (with_reducible refine Kd.C_drewN ?_ _) | (with_reducible refine Kd.C_drew ?_))); (case side4 => exact HC0_1.out); rintro e w55 ⟨v326, v329, rfl, ho0, ho1, hb⟩; refine ⟨_, rfl, ?_⟩; have n0_ := Aside0.mk (Kd.R_elder' (rvR HO317.out) (Kd.R_base ho0) hb); have n1_ := Aside0.mk (Kd.R_elder' (rvR HO320.out) (Kd.R_base ho1) hb); have n2_ := Aside0.mk (Kd.R_below (rvR HO323.out) hb); have n3_ := Aside0.mk (Kd.R_lower (Kd.R_new' ho0 (Kd.R_lt (rvR HO317.out))) (below_size (by repeat (first | (with_reducible first | exact HB.out | apply bwA | apply bwN | apply bwD | refine below_set ?_ GE313.out) | exact HB.out)))); have n4_ := Aside0.mk (Kd.R_lower (Kd.R_new' (Kd.R_new' ho1 (Kd.R_lt (rvR HO320.out))) (Kd.R_lt (rvR HO323.out))) (below_size (by repeat (first | (with_reducible first | exact HB.out | apply bwA | apply bwN | apply bwD | refine below_set ?_ GE313.out) | exact HB.out)))); have n5_ := Aside0.mk (blk_below (g := gb313) (o := .cells #[.slice A0_0 l0_0.length c0_0, .slice A0_1 l0_1.length c0_1] 52 (0, 0)) (bvK BK313.out) hb); have n6_ := Aside0.mk (below_step (by repeat (first | (with_reducible first | exact HB.out | apply bwA | apply bwN | apply bwD | refine below_set ?_ GE313.out) | exact HB.out)) hb); clear HO317; clear HO320; clear HO323; clear BK313; clear HB; have HO317 := n0_; have HO320 := n1_; have HO323 := n2_; have HO327 := n3_; have HO330 := n4_; have BK313 := n5_; have HB := n6_; clear n0_ n1_ n2_ n3_ n4_ n5_ n6_; (try clear hb); (try clear hb2); (try clear hk); (try clear hi); (try clear ho0); (try clear ho1)) | ((with_reducible refine gate_dst (N := 7) rfl ?_); refine box_event ?hg (N := 7) ?hd (cs := #[.slice none 0 0, .slice none 0 0]) (t := 58) ?hr ?_; (case hd => rfl); (case hg => rfl); (case hr => first | (go_simp; done) | (go_simp; rfl)); intro gb331 hg w56 hbox hb; have n0_ := Aside0.mk (Kd.R_below (rvR HO317.out) hb); have n1_ := Aside0.mk (Kd.R_below (rvR HO320.out) hb); have n2_ := Aside0.mk (Kd.R_below (rvR HO323.out) hb); have n3_ := Aside0.mk (Kd.R_below (rvR HO327.out) hb); have n4_ := Aside0.mk (Kd.R_below (rvR HO330.out) hb); have n5_ := Aside0.mk (blk_below (g := gb313) (o := .cells #[.slice A0_0 l0_0.length c0_0, .slice A0_1 l0_1.length c0_1] 52 (0, 0)) (bvK BK313.out) hb); have n6_ := Aside0.mk (below_step (by repeat (first | (with_reducible first | exact HB.out | apply bwA | apply bwN | apply bwD | refine below_set ?_ GE313.out) | exact HB.out)) hb); have n7_ := Aside0.mk (hbox); have n8_ := Aside0.mk ((by rw [hg]; exact (below_size (by repeat (first | (with_reducible first | exact HB.out | apply bwA | apply bwN | apply bwD | refine below_set ?_ GE313.out) | exact HB.out))) : w.heap.size ≤ gb331)); have n9_ := Aside0.mk ((by rw [hg]; exact (below_size (by repeat (first | (with_reducible first | exact HB.out | apply bwA | apply bwN | apply bwD | refine below_set ?_ GE313.out) | exact HB.out))) : w.heap.size ≤ gb331)); have n10_ := Aside0.mk ((by rw [hg]; exact Nat.ne_of_lt (blk_lt (g := gb313) (o := .cells #[.slice A0_0 l0_0.length c0_0, .slice A0_1 l0_1.length c0_1] 52 (0, 0)) (bvK BK313.out)) : gb313 ≠ gb331)); have n11_ := Aside0.mk ((by rw [hg]; exact Nat.ne_of_gt (blk_lt (g := gb313) (o := .cells #[.slice A0_0 l0_0.length c0_0, .slice A0_1 l0_1.length c0_1] 52 (0, 0)) (bvK BK313.out)) : gb331 ≠ gb313)); clear HO317; clear HO320; clear HO323; clear HO327; clear HO330; clear BK313; clear HB; have HO317 := n0_; have HO320 := n1_; have HO323 := n2_; have HO327 := n3_; have HO330 := n4_; have BK313 := n5_; have HB := n6_; have BK331 := n7_; have GW331 := n8_; have GE331 := n9_; have NB313_331 := n10_; have NB331_313 := n11_; clear n0_ n1_ n2_ n3_ n4_ n5_ n6_ n7_ n8_ n9_ n10_ n11_; clear hb hbox hg; obtain ⟨Ao57, co57, eo57⟩ := Kd.R_slice HO327.out; subst eo57; have hnb58 := NB331_313.out; have hnc58 := NB313_331.out; have hcz59_0 : w56.cell? ⟨gb331, 0, none⟩ = some (.slice none 0 0) := (blk_cell BK331.out 0).trans rfl; have hcz59_1 : w56.cell? ⟨gb331, 1, none⟩ = some (.slice none 0 0) := (blk_cell BK331.out 1).trans rfl; have hfz59_0 := blk_frozen BK331.out 0; have hfz59_1 := blk_frozen BK331.out 1; obtain ⟨Ao60, co60, eo60⟩ := Kd.R_slice HO330.out; subst eo60) | ((with_reducible refine gate_callee (f := 16) rfl ?_); refine goesL_ (some 26) rfl rfl Try.func16 (by kernel_rfl) rfl #[.slice A1 l1.length c1] rfl lmB ?_; (with_reducible refine (laws_toIntS.calls k _ _ l1 t332 _ ?side1 ?side2 A14.out).mono ?_); (case side1 => exact Kd.C_below HR1.out (by repeat (first | (with_reducible first | exact HB.out | apply bwA | apply bwN | apply bwD | refine below_set ?_ GE313.out | refine below_set ?_ GE331.out) | exact HB.out))); (case side2 => exact HC1.out); rintro e w61 ⟨v333, rfl, ho0, hb⟩; refine ⟨_, rfl, ?_⟩; have n0_ := Aside0.mk (Kd.R_below (by (with_reducible repeat (first | apply Kd.R_alloc | apply Kd.R_drewN | apply Kd.R_drew)); exact (Kd.R_mono (Kd.R_far (p := ⟨gb331, 1, none⟩) (Kd.R_far (p := ⟨gb331, 0, none⟩) (Kd.R_types HO317.out BK331.out (by decide)) (fun _ hk => hk.2) (.slice Ao57 t325.length co57)) (fun _ hk => hk.2) (.slice Ao60 t328.length co60)) (fun _ h_ => h_.1))) hb); have n1_ := Aside0.mk (Kd.R_elder' (by (with_reducible repeat (first | apply Kd.R_alloc | apply Kd.R_drewN | apply Kd.R_drew)); exact (Kd.R_mono (Kd.R_far (p := ⟨gb331, 1, none⟩) (Kd.R_far (p := ⟨gb331, 0, none⟩) (Kd.R_types HO320.out BK331.out (by decide)) (fun _ hk => hk.2) (.slice Ao57 t325.length co57)) (fun _ hk => hk.2) (.slice Ao60 t328.length co60)) (fun _ h_ => h_.1))) (Kd.R_base ho0) hb); have n2_ := Aside0.mk (Kd.R_elder' (by (with_reducible repeat (first | apply Kd.R_alloc | apply Kd.R_drewN | apply Kd.R_drew)); exact (Kd.R_mono (Kd.R_far (p := ⟨gb331, 1, none⟩) (Kd.R_far (p := ⟨gb331, 0, none⟩) (Kd.R_types HO323.out BK331.out (by decide)) (fun _ hk => hk.2) (.slice Ao57 t325.length co57)) (fun _ hk => hk.2) (.slice Ao60 t328.length co60)) (fun _ h_ => h_.1))) (Kd.R_base ho0) hb); have n3_ := Aside0.mk (Kd.R_below (by (with_reducible repeat (first | apply Kd.R_alloc | apply Kd.R_drewN | apply Kd.R_drew)); exact (Kd.R_mono (Kd.R_far (p := ⟨gb331, 1, none⟩) (Kd.R_far (p := ⟨gb331, 0, none⟩) (Kd.R_types HO327.out BK331.out (by decide)) (fun _ hk => hk.2) (.slice Ao57 t325.length co57)) (fun _ hk => hk.2) (.slice Ao60 t328.length co60)) (fun _ h_ => h_.1))) hb); have n4_ := Aside0.mk (Kd.R_elder' (by (with_reducible repeat (first | apply Kd.R_alloc | apply Kd.R_drewN | apply Kd.R_drew)); exact (Kd.R_mono (Kd.R_far (p := ⟨gb331, 1, none⟩) (Kd.R_far (p := ⟨gb331, 0, none⟩) (Kd.R_types HO330.out BK331.out (by decide)) (fun _ hk => hk.2) (.slice Ao57 t325.length co57)) (fun _ hk => hk.2) (.slice Ao60 t328.length co60)) (fun _ h_ => h_.1))) (Kd.R_base ho0) hb); have n5_ := Aside0.mk (Kd.R_lower (Kd.R_new' ho0 (Kd.R_lt (by (with_reducible repeat (first | apply Kd.R_alloc | apply Kd.R_drewN | apply Kd.R_drew)); exact (Kd.R_mono (Kd.R_far (p := ⟨gb331, 1, none⟩) (Kd.R_far (p := ⟨gb331, 0, none⟩) (Kd.R_types HO323.out BK331.out (by decide)) (fun _ hk => hk.2) (.slice Ao57 t325.length co57)) (fun _ hk => hk.2) (.slice Ao60 t328.length co60)) (fun _ h_ => h_.1))))) (below_size (by repeat (first | (with_reducible first | exact HB.out | apply bwA | apply bwN | apply bwD | refine below_set ?_ GE313.out | refine below_set ?_ GE331.out) | exact HB.out)))); have n6_ := Aside0.mk (blk_below (g := gb313) (o := .cells #[.slice A0_0 l0_0.length c0_0, .slice A0_1 l0_1.length c0_1] 52 (0, 0)) (by (with_reducible repeat (first | refine blk_drewN ?_ _ | refine blk_drew ?_ | refine blk_alloc ?_ _)); refine blk_far ?_ NB313_331.out _; (with_reducible repeat (first | refine blk_drewN ?_ _ | refine blk_drew ?_ | refine blk_alloc ?_ _)); refine blk_far ?_ NB313_331.out _; (with_reducible repeat (first | refine blk_drewN ?_ _ | refine blk_drew ?_ | refine blk_alloc ?_ _)); exact BK313.out) hb); have n7_ := Aside0.mk (blk_below (g := gb331) (o := .cells #[.slice Ao57 t325.length co57, .slice Ao60 t328.length co60] 58 (0, 0)) (by (with_reducible repeat (first | refine blk_drewN ?_ _ | refine blk_drew ?_ | refine blk_alloc ?_ _)); refine blk_put (cs := #[.slice Ao57 t325.length co57, .slice none 0 0]) ?_ 1 _ rfl; (with_reducible repeat (first | refine blk_drewN ?_ _ | refine blk_drew ?_ | refine blk_alloc ?_ _)); refine blk_put (cs := #[.slice none 0 0, .slice none 0 0]) ?_ 0 _ rfl; (with_reducible repeat (first | refine blk_drewN ?_ _ | refine blk_drew ?_ | refine blk_alloc ?_ _)); exact BK331.out) hb); have n8_ := Aside0.mk (below_step (by repeat (first | (with_reducible first | exact HB.out | apply bwA | apply bwN | apply bwD | refine below_set ?_ GE313.out | refine below_set ?_ GE331.out) | exact HB.out)) hb); clear HO317; clear HO320; clear HO323; clear HO327; clear HO330; clear BK313; clear BK331; clear HB; have HO317 := n0_; have HO320 := n1_; have HO323 := n2_; have HO327 := n3_; have HO330 := n4_; have HO334 := n5_; have BK313 := n6_; have BK331 := n7_; have HB := n8_; clear n0_ n1_ n2_ n3_ n4_ n5_ n6_ n7_ n8_; (try clear hb); (try clear hb2); (try clear hk); (try clear hi); (try clear ho0); have hcz62_0 : w61.cell? ⟨gb331, 0, none⟩ = some (.slice Ao57 t325.length co57) := (blk_cell BK331.out 0).trans rfl; have hcz62_1 : w61.cell? ⟨gb331, 1, none⟩ = some (.slice Ao60 t328.length co60) := (blk_cell BK331.out 1).trans rfl; have hfz62_0 := blk_frozen BK331.out 0; have hfz62_1 := blk_frozen BK331.out 1; obtain ⟨Ao63, co63, eo63⟩ := Kd.R_slice HO334.out; subst eo63) | ((with_reducible refine gate_callee (f := 39) rfl ?_); refine goesL_ (some 29) rfl rfl Try.func39 (by kernel_rfl) rfl #[.agg #[.slice Ao57 t325.length co57, .slice Ao60 t328.length co60], .slice Ao63 t332.length co63] rfl lmB ?_; (with_reducible refine (impl_RulesSet.calls k _ _ t325 _ _ t328 _ _ t332 t335 _ ?side1 ?side2 ?side3 ?side4 ?side5 ?side6 A15.out).mono ?_); (case side1 => repeat (first | exact (Kd.R_reads' HO327.out).2.2 | (with_reducible refine Kd.C_alloc ?_ _) | (with_reducible refine Kd.C_drewN ?_ _) | (with_reducible refine Kd.C_drew ?_))); (case side2 => exact (Kd.R_reads' HO327.out).2.1); (case side3 => repeat (first | exact (Kd.R_reads' HO330.out).2.2 | (with_reducible refine Kd.C_alloc ?_ _) | (with_reducible refine Kd.C_drewN ?_ _) | (with_reducible refine Kd.C_drew ?_))); (case side4 => exact (Kd.R_reads' HO330.out).2.1); (case side5 => repeat (first | exact (Kd.R_reads' HO334.out).2.2 | (with_reducible refine Kd.C_alloc ?_ _) | (with_reducible refine Kd.C_drewN ?_ _) | (with_reducible refine Kd.C_drew ?_))); (case side6 => exact (Kd.R_reads' HO334.out).2.1); rintro e w64 ⟨rfl, hb⟩; refine ⟨_, rfl, ?_⟩; have n0_ := Aside0.mk (Kd.R_below (rvR HO317.out) hb); have n1_ := Aside0.mk (Kd.R_below (rvR HO320.out) hb); have n2_ := Aside0.mk (Kd.R_below (rvR HO323.out) hb); have n3_ := Aside0.mk (Kd.R_below (rvR HO327.out) hb); have n4_ := Aside0.mk (Kd.R_below (rvR HO330.out) hb); have n5_ := Aside0.mk (Kd.R_below (rvR HO334.out) hb); have n6_ := Aside0.mk (blk_below (g := gb313) (o := .cells #[.slice A0_0 l0_0.length c0_0, .slice A0_1 l0_1.length c0_1] 52 (0, 0)) (bvK BK313.out) hb); have n7_ := Aside0.mk (blk_below (g := gb331) (o := .cells #[.slice Ao57 t325.length co57, .slice Ao60 t328.length co60] 58 (0, 0)) (bvK BK331.out) hb); have n8_ := Aside0.mk (below_step (by repeat (first | (with_reducible first | exact HB.out | apply bwA | apply bwN | apply bwD | refine below_set ?_ GE313.out | refine below_set ?_ GE331.out) | exact HB.out)) hb); clear HO317; clear HO320; clear HO323; clear HO327; clear HO330; clear HO334; clear BK313; clear BK331; clear HB; have HO317 := n0_; have HO320 := n1_; have HO323 := n2_; have HO327 := n3_; have HO330 := n4_; have HO334 := n5_; have BK313 := n6_; have BK331 := n7_; have HB := n8_; clear n0_ n1_ n2_ n3_ n4_ n5_ n6_ n7_ n8_; (try clear hb); (try clear hb2); (try clear hk); (try clear hi)))
      have n0_ := Aside0.mk (Kd.R_drew HO317.out)
      have n1_ := Aside0.mk (Kd.R_drew HO320.out)
      have n2_ := Aside0.mk (Kd.R_drew HO323.out)
      have n3_ := Aside0.mk (Kd.R_drew HO327.out)
      have n4_ := Aside0.mk (Kd.R_drew HO330.out)
      have n5_ := Aside0.mk (Kd.R_drew HO334.out)
      have n6_ := Aside0.mk (blk_drew BK313.out)
      have n7_ := Aside0.mk (blk_drew BK331.out)
      have n8_ := Aside0.mk (below_drew1 HB.out)
      clear HO317
      clear HO320
      clear HO323
      clear HO327
      clear HO330
      clear HO334
      clear BK313
      clear BK331
      clear HB
      have HO317 := n0_
      have HO320 := n1_
      have HO323 := n2_
      have HO327 := n3_
      have HO330 := n4_
      have HO334 := n5_
      have BK313 := n6_
      have BK331 := n7_
      have HB := n8_
      clear n0_ n1_ n2_ n3_ n4_ n5_ n6_ n7_ n8_
      refine start_ (n := 5) (S := fun w' => w'.cell? ⟨gb331, 0, none⟩ = some (.slice Ao57 t325.length co57) ∧ w'.cell? ⟨gb331, 1, none⟩ = some (.slice Ao60 t328.length co60) ∧ w'.cell? ⟨gb313, 0, none⟩ = some (.slice A0_0 l0_0.length c0_0) ∧ w'.cell? ⟨gb313, 1, none⟩ = some (.slice A0_1 l0_1.length c0_1)) (ds := []) #[false, false, false, false, false] (by kernel_rfl) rfl rfl ⟨(blk_cell BK331.out 0).trans rfl, (blk_cell BK331.out 1).trans rfl, (blk_cell BK313.out 0).trans rfl, (blk_cell BK313.out 1).trans rfl⟩ (fun hHeld => ?_)
      generalize w64.drew = w65 at HO317 HO320 HO323 HO327 HO330 HO334 BK313 BK331 HB hHeld ⊢
      refine take_ (i := 0) (N := some 33) (v := ?_) (a' := ?_) #[true, false, false, false, false] rfl rfl (by kernel_rfl) (fun _ _ _ h => h) (Or.inl ⟨by rfl, ?_⟩) hHeld ?_ ?_
      rotate_left
      ·rintro w' ⟨s0, s1, s2, s3⟩
       go_simp
       with_reducible rfl
      rotate_left
      ·simp only [Act.put, List.setIfInBounds_toArray, List.set_cons_zero, List.set_cons_succ, i64_w, i32_w]
       rfl
      refine take_ (i := 1) (N := some 34) (v := ?_) (a' := ?_) #[true, true, false, false, false] rfl rfl (by kernel_rfl) (fun _ _ _ h => h) (Or.inl ⟨by rfl, ?_⟩) hHeld ?_ ?_
      rotate_left
      ·rintro w' ⟨s0, s1, s2, s3⟩
       go_simp
       with_reducible rfl
      rotate_left
      ·simp only [Act.put, List.setIfInBounds_toArray, List.set_cons_zero, List.set_cons_succ, i64_w, i32_w]
       rfl
      refine one_ (i := 2) (N := some 35) #[true, true, true, false, false] rfl rfl (by kernel_rfl) (by decide) (fun K hK => ?_)
      refine goes_ Try.func35 (by kernel_rfl) rfl #[.agg #[.slice A0_0 l0_0.length c0_0, .slice A0_1 l0_1.length c0_1]] (by rfl) rfl rfl lmB ?_
      with_reducible refine (laws_toSystem.calls k _ _ l0_0 _ _ l0_1 t336 t339 _ ?side1 ?side2 ?side3 ?side4 A38.out).mono ?_
      (case side1 => repeat (first | exact (Kd.C_below HR0_0.out HB.out) | (with_reducible refine Kd.C_alloc ?_ _) | (with_reducible refine Kd.C_drewN ?_ _) | (with_reducible refine Kd.C_drew ?_)))
      (case side2 => exact HC0_0.out)
      (case side3 => repeat (first | exact (Kd.C_below HR0_1.out HB.out) | (with_reducible refine Kd.C_alloc ?_ _) | (with_reducible refine Kd.C_drewN ?_ _) | (with_reducible refine Kd.C_drew ?_)))
      (case side4 => exact HC0_1.out)
      rintro e w66 ⟨v337, v340, rfl, ho0, ho1, hb⟩
      refine ⟨_, rfl, ?_⟩
      have n0_ := Aside0.mk (Kd.R_elder' (rvR HO317.out) (Kd.R_base ho0) hb)
      have n1_ := Aside0.mk (Kd.R_elder' (rvR HO320.out) (Kd.R_base ho1) hb)
      have n2_ := Aside0.mk (Kd.R_below (rvR HO323.out) hb)
      have n3_ := Aside0.mk (Kd.R_elder' (rvR HO327.out) (Kd.R_base ho0) hb)
      have n4_ := Aside0.mk (Kd.R_elder' (rvR HO330.out) (Kd.R_base ho1) hb)
      have n5_ := Aside0.mk (Kd.R_below (rvR HO334.out) hb)
      have n6_ := Aside0.mk (Kd.R_lower (Kd.R_new' (Kd.R_new' ho0 (Kd.R_lt (rvR HO317.out))) (Kd.R_lt (rvR HO327.out))) (below_size (by repeat (first | (with_reducible first | exact HB.out | apply bwA | apply bwN | apply bwD | refine below_set ?_ GE313.out | refine below_set ?_ GE331.out) | exact HB.out))))
      have n7_ := Aside0.mk (Kd.R_lower (Kd.R_new' (Kd.R_new' (Kd.R_new' (Kd.R_new' ho1 (Kd.R_lt (rvR HO320.out))) (Kd.R_lt (rvR HO323.out))) (Kd.R_lt (rvR HO330.out))) (Kd.R_lt (rvR HO334.out))) (below_size (by repeat (first | (with_reducible first | exact HB.out | apply bwA | apply bwN | apply bwD | refine below_set ?_ GE313.out | refine below_set ?_ GE331.out) | exact HB.out))))
      have n8_ := Aside0.mk (blk_below (g := gb313) (o := .cells #[.slice A0_0 l0_0.length c0_0, .slice A0_1 l0_1.length c0_1] 52 (0, 0)) (bvK BK313.out) hb)
      have n9_ := Aside0.mk (blk_below (g := gb331) (o := .cells #[.slice Ao57 t325.length co57, .slice Ao60 t328.length co60] 58 (0, 0)) (bvK BK331.out) hb)
      have n10_ := Aside0.mk (below_step (by repeat (first | (with_reducible first | exact HB.out | apply bwA | apply bwN | apply bwD | refine below_set ?_ GE313.out | refine below_set ?_ GE331.out) | exact HB.out)) hb)
      clear HO317
      clear HO320
      clear HO323
      clear HO327
      clear HO330
      clear HO334
      clear BK313
      clear BK331
      clear HB
      have HO317 := n0_
      have HO320 := n1_
      have HO323 := n2_
      have HO327 := n3_
      have HO330 := n4_
      have HO334 := n5_
      have HO338 := n6_
      have HO341 := n7_
      have BK313 := n8_
      have BK331 := n9_
      have HB := n10_
      clear n0_ n1_ n2_ n3_ n4_ n5_ n6_ n7_ n8_ n9_ n10_
      (try clear hb)
      (try clear hb2)
      (try clear hk)
      (try clear hi)
      (try clear ho0)
      (try clear ho1)
      obtain ⟨Ao67, co67, eo67⟩ := Kd.R_slice HO338.out
      (first | subst eo67 | (injection eo67 with f1_ f2_ f3_; have f4_ := f1_.symm; have f5_ := f3_.symm; clear f1_ f2_ f3_; subst f4_; subst f5_))
      obtain ⟨Ao68, co68, eo68⟩ := Kd.R_slice HO341.out
      (first | subst eo68 | (injection eo68 with f1_ f2_ f3_; have f4_ := f1_.symm; have f5_ := f3_.symm; clear f1_ f2_ f3_; subst f4_; subst f5_))
      refine hK.out _ _ ⟨(blk_cell BK331.out 0).trans rfl, (blk_cell BK331.out 1).trans rfl, (blk_cell BK313.out 0).trans rfl, (blk_cell BK313.out 1).trans rfl⟩ (fun hHeld => ?_)
      clear hK K
      refine norm_ (a' := ?_) ?_ ?_
      rotate_left
      ·show Act.put _ (some 35) _ = _
       simp only [Act.put, List.setIfInBounds_toArray, List.set_cons_zero, List.set_cons_succ, i64_w, i32_w]
       rfl
      refine one_ (i := 3) (N := some 36) #[true, true, true, true, false] rfl rfl (by kernel_rfl) (by decide) (fun K hK => ?_)
      refine goes_ Try.func37 (by kernel_rfl) rfl #[.agg #[.slice Ao57 t325.length co57, .slice Ao60 t328.length co60], .agg #[.slice Ao67 t336.length co67, .slice Ao68 t339.length co68]] (by rfl) rfl rfl lmB ?_
      with_reducible refine (laws_eqSystem.calls k _ _ t325 _ _ t328 _ _ t336 _ _ t339 true _ ?side1 ?side2 ?side3 ?side4 ?side5 ?side6 ?side7 ?side8 A39.out).mono ?_
      (case side1 => repeat (first | exact (Kd.R_reads' HO327.out).2.2 | (with_reducible refine Kd.C_alloc ?_ _) | (with_reducible refine Kd.C_drewN ?_ _) | (with_reducible refine Kd.C_drew ?_)))
      (case side2 => exact (Kd.R_reads' HO327.out).2.1)
      (case side3 => repeat (first | exact (Kd.R_reads' HO330.out).2.2 | (with_reducible refine Kd.C_alloc ?_ _) | (with_reducible refine Kd.C_drewN ?_ _) | (with_reducible refine Kd.C_drew ?_)))
      (case side4 => exact (Kd.R_reads' HO330.out).2.1)
      (case side5 => repeat (first | exact (Kd.R_reads' HO338.out).2.2 | (with_reducible refine Kd.C_alloc ?_ _) | (with_reducible refine Kd.C_drewN ?_ _) | (with_reducible refine Kd.C_drew ?_)))
      (case side6 => exact (Kd.R_reads' HO338.out).2.1)
      (case side7 => repeat (first | exact (Kd.R_reads' HO341.out).2.2 | (with_reducible refine Kd.C_alloc ?_ _) | (with_reducible refine Kd.C_drewN ?_ _) | (with_reducible refine Kd.C_drew ?_)))
      (case side8 => exact (Kd.R_reads' HO341.out).2.1)
      rintro e w69 ⟨rfl, hb⟩
      refine ⟨_, rfl, ?_⟩
      have n0_ := Aside0.mk (Kd.R_below (rvR HO317.out) hb)
      have n1_ := Aside0.mk (Kd.R_below (rvR HO320.out) hb)
      have n2_ := Aside0.mk (Kd.R_below (rvR HO323.out) hb)
      have n3_ := Aside0.mk (Kd.R_below (rvR HO327.out) hb)
      have n4_ := Aside0.mk (Kd.R_below (rvR HO330.out) hb)
      have n5_ := Aside0.mk (Kd.R_below (rvR HO334.out) hb)
      have n6_ := Aside0.mk (Kd.R_below (rvR HO338.out) hb)
      have n7_ := Aside0.mk (Kd.R_below (rvR HO341.out) hb)
      have n8_ := Aside0.mk (blk_below (g := gb313) (o := .cells #[.slice A0_0 l0_0.length c0_0, .slice A0_1 l0_1.length c0_1] 52 (0, 0)) (bvK BK313.out) hb)
      have n9_ := Aside0.mk (blk_below (g := gb331) (o := .cells #[.slice Ao57 t325.length co57, .slice Ao60 t328.length co60] 58 (0, 0)) (bvK BK331.out) hb)
      have n10_ := Aside0.mk (below_step (by repeat (first | (with_reducible first | exact HB.out | apply bwA | apply bwN | apply bwD | refine below_set ?_ GE313.out | refine below_set ?_ GE331.out) | exact HB.out)) hb)
      clear HO317
      clear HO320
      clear HO323
      clear HO327
      clear HO330
      clear HO334
      clear HO338
      clear HO341
      clear BK313
      clear BK331
      clear HB
      have HO317 := n0_
      have HO320 := n1_
      have HO323 := n2_
      have HO327 := n3_
      have HO330 := n4_
      have HO334 := n5_
      have HO338 := n6_
      have HO341 := n7_
      have BK313 := n8_
      have BK331 := n9_
      have HB := n10_
      clear n0_ n1_ n2_ n3_ n4_ n5_ n6_ n7_ n8_ n9_ n10_
      (try clear hb)
      (try clear hb2)
      (try clear hk)
      (try clear hi)
      refine hK.out _ _ ⟨(blk_cell BK331.out 0).trans rfl, (blk_cell BK331.out 1).trans rfl, (blk_cell BK313.out 0).trans rfl, (blk_cell BK313.out 1).trans rfl⟩ (fun hHeld => ?_)
      clear hK K
      refine norm_ (a' := ?_) ?_ ?_
      rotate_left
      ·show Act.put _ (some 36) _ = _
       simp only [Act.put, List.setIfInBounds_toArray, List.set_cons_zero, List.set_cons_succ, i64_w, i32_w]
       rfl
      refine pure_ (i := 4) (N := some 37) (v := ?_) (a' := ?_) #[true, true, true, true, true] rfl rfl (by kernel_rfl) (fun _ _ _ h => h) (Or.inl ⟨by rfl, ?_⟩) ?_ ?_
      rotate_left
      ·intro w'
       go_simp
       with_reducible rfl
      rotate_left
      ·simp only [Act.put, List.setIfInBounds_toArray, List.set_cons_zero, List.set_cons_succ, i64_w, i32_w]
       rfl
      refine done_ (by kernel_rfl) ?_
      try go_wp2_with (first | ((with_reducible refine gate_callee (f := 16) rfl ?_); refine goesL_ (some 40) rfl rfl Try.func16 (by kernel_rfl) rfl #[.slice A1 l1.length c1] rfl lmB ?_; (with_reducible refine (laws_toIntS.calls k _ _ l1 t343 _ ?side1 ?side2 A41.out).mono ?_); (case side1 => repeat (first | exact (Kd.C_below HR1.out HB.out) | (with_reducible refine Kd.C_alloc ?_ _) | (with_reducible refine Kd.C_drewN ?_ _) | (with_reducible refine Kd.C_drew ?_))); (case side2 => exact HC1.out); rintro e w70 ⟨v344, rfl, ho0, hb⟩; refine ⟨_, rfl, ?_⟩; have n0_ := Aside0.mk (Kd.R_below (rvR HO317.out) hb); have n1_ := Aside0.mk (Kd.R_elder' (rvR HO320.out) (Kd.R_base ho0) hb); have n2_ := Aside0.mk (Kd.R_elder' (rvR HO323.out) (Kd.R_base ho0) hb); have n3_ := Aside0.mk (Kd.R_below (rvR HO327.out) hb); have n4_ := Aside0.mk (Kd.R_elder' (rvR HO330.out) (Kd.R_base ho0) hb); have n5_ := Aside0.mk (Kd.R_elder' (rvR HO334.out) (Kd.R_base ho0) hb); have n6_ := Aside0.mk (Kd.R_below (rvR HO338.out) hb); have n7_ := Aside0.mk (Kd.R_elder' (rvR HO341.out) (Kd.R_base ho0) hb); have n8_ := Aside0.mk (Kd.R_lower (Kd.R_new' (Kd.R_new' ho0 (Kd.R_lt (rvR HO323.out))) (Kd.R_lt (rvR HO334.out))) (below_size (by repeat (first | (with_reducible first | exact HB.out | apply bwA | apply bwN | apply bwD | refine below_set ?_ GE313.out | refine below_set ?_ GE331.out) | exact HB.out)))); have n9_ := Aside0.mk (blk_below (g := gb313) (o := .cells #[.slice A0_0 l0_0.length c0_0, .slice A0_1 l0_1.length c0_1] 52 (0, 0)) (bvK BK313.out) hb); have n10_ := Aside0.mk (blk_below (g := gb331) (o := .cells #[.slice Ao57 t325.length co57, .slice Ao60 t328.length co60] 58 (0, 0)) (bvK BK331.out) hb); have n11_ := Aside0.mk (below_step (by repeat (first | (with_reducible first | exact HB.out | apply bwA | apply bwN | apply bwD | refine below_set ?_ GE313.out | refine below_set ?_ GE331.out) | exact HB.out)) hb); clear HO317; clear HO320; clear HO323; clear HO327; clear HO330; clear HO334; clear HO338; clear HO341; clear BK313; clear BK331; clear HB; have HO317 := n0_; have HO320 := n1_; have HO323 := n2_; have HO327 := n3_; have HO330 := n4_; have HO334 := n5_; have HO338 := n6_; have HO341 := n7_; have HO345 := n8_; have BK313 := n9_; have BK331 := n10_; have HB := n11_; clear n0_ n1_ n2_ n3_ n4_ n5_ n6_ n7_ n8_ n9_ n10_ n11_; (try clear hb); (try clear hb2); (try clear hk); (try clear hi); (try clear ho0); obtain ⟨Ao71, co71, eo71⟩ := Kd.R_slice HO345.out; subst eo71) | ((with_reducible refine gate_callee (f := 19) rfl ?_); refine goesL_ (some 41) rfl rfl Try.func19 (by kernel_rfl) rfl #[.slice Ao63 t332.length co63, .slice Ao71 t343.length co71] rfl lmB ?_; (with_reducible refine (laws_eqIntS.calls k _ _ t332 _ _ t343 true _ ?side1 ?side2 ?side3 ?side4 A42.out).mono ?_); (case side1 => repeat (first | exact (Kd.R_reads' HO334.out).2.2 | (with_reducible refine Kd.C_alloc ?_ _) | (with_reducible refine Kd.C_drewN ?_ _) | (with_reducible refine Kd.C_drew ?_))); (case side2 => exact (Kd.R_reads' HO334.out).2.1); (case side3 => repeat (first | exact (Kd.R_reads' HO345.out).2.2 | (with_reducible refine Kd.C_alloc ?_ _) | (with_reducible refine Kd.C_drewN ?_ _) | (with_reducible refine Kd.C_drew ?_))); (case side4 => exact (Kd.R_reads' HO345.out).2.1); rintro e w' ⟨rfl, ⟨nd, rfl⟩⟩; refine ⟨_, rfl, ?_⟩))
      go_ret
      exact ⟨ers, by repeat (first | (with_reducible first | exact HB.out | apply bwA | apply bwN | apply bwD | refine below_set ?_ GE313.out | refine below_set ?_ GE331.out) | exact HB.out)⟩
     ·replace c43 := Bool.eq_false_iff.mpr c43
      subst c43
      have H1 : (some false) = some r := by rw [if_neg (show ¬ (false = true) by decide)] at H; exact H
      clear H
      have H := H1
      clear H1
      obtain rfl := Option.some.inj H
      go_enter Try.func9, Try.ntmps9
      try go_wp2_with (first | ((with_reducible refine gate_dst (N := 2) rfl ?_); refine box_event ?hg (N := 2) ?hd (cs := #[.slice A0_0 l0_0.length c0_0, .slice A0_1 l0_1.length c0_1]) (t := 52) ?hr ?_; (case hd => rfl); (case hg => rfl); (case hr => first | (go_simp; done) | (go_simp; rfl)); intro gb313 hg w72 hbox hb; have n0_ := Aside0.mk (below_step (by repeat (first | (with_reducible first | exact HB.out | apply bwA | apply bwN | apply bwD) | exact HB.out)) hb); have n1_ := Aside0.mk (hbox); have n2_ := Aside0.mk ((by rw [hg]; exact (below_size (by repeat (first | (with_reducible first | exact HB.out | apply bwA | apply bwN | apply bwD) | exact HB.out))) : w.heap.size ≤ gb313)); have n3_ := Aside0.mk ((by rw [hg]; exact (below_size (by repeat (first | (with_reducible first | exact HB.out | apply bwA | apply bwN | apply bwD) | exact HB.out))) : w.heap.size ≤ gb313)); clear HB; have HB := n0_; have BK313 := n1_; have GW313 := n2_; have GE313 := n3_; clear n0_ n1_ n2_ n3_; clear hb hbox hg; have hcz73_0 : w72.cell? ⟨gb313, 0, none⟩ = some (.slice A0_0 l0_0.length c0_0) := (blk_cell BK313.out 0).trans rfl; have hcz73_1 : w72.cell? ⟨gb313, 1, none⟩ = some (.slice A0_1 l0_1.length c0_1) := (blk_cell BK313.out 1).trans rfl; have hfz73_0 := blk_frozen BK313.out 0; have hfz73_1 := blk_frozen BK313.out 1) | ((with_reducible refine gate_callee (f := 33) rfl ?_); refine goesL_ (some 15) rfl rfl Try.func33 (by kernel_rfl) rfl #[.agg #[.slice A0_0 l0_0.length c0_0, .slice A0_1 l0_1.length c0_1], .int .i64 1048576] rfl lmB ?_; (with_reducible refine (laws_szSystem.calls k _ _ l0_0 _ _ l0_1 1048576 t314 _ ?side1 ?side2 ?side3 ?side4 A5.out).mono ?_); (case side1 => repeat (first | exact (Kd.C_below HR0_0.out HB.out) | (with_reducible refine Kd.C_alloc ?_ _) | (with_reducible refine Kd.C_drewN ?_ _) | (with_reducible refine Kd.C_drew ?_))); (case side2 => exact HC0_0.out); (case side3 => repeat (first | exact (Kd.C_below HR0_1.out HB.out) | (with_reducible refine Kd.C_alloc ?_ _) | (with_reducible refine Kd.C_drewN ?_ _) | (with_reducible refine Kd.C_drew ?_))); (case side4 => exact HC0_1.out); rintro e w74 ⟨rfl, hb⟩; refine ⟨_, rfl, ?_⟩; have n0_ := Aside0.mk (blk_below (g := gb313) (o := .cells #[.slice A0_0 l0_0.length c0_0, .slice A0_1 l0_1.length c0_1] 52 (0, 0)) (bvK BK313.out) hb); have n1_ := Aside0.mk (below_step (by repeat (first | (with_reducible first | exact HB.out | apply bwA | apply bwN | apply bwD | refine below_set ?_ GE313.out) | exact HB.out)) hb); clear BK313; clear HB; have BK313 := n0_; have HB := n1_; clear n0_ n1_; (try clear hb); (try clear hb2); (try clear hk); (try clear hi); have hcz75_0 : w74.cell? ⟨gb313, 0, none⟩ = some (.slice A0_0 l0_0.length c0_0) := (blk_cell BK313.out 0).trans rfl; have hcz75_1 : w74.cell? ⟨gb313, 1, none⟩ = some (.slice A0_1 l0_1.length c0_1) := (blk_cell BK313.out 1).trans rfl; have hfz75_0 := blk_frozen BK313.out 0; have hfz75_1 := blk_frozen BK313.out 1) | ((with_reducible refine gate_callee (f := 35) rfl ?_); refine goesL_ (some 19) rfl rfl Try.func35 (by kernel_rfl) rfl #[.agg #[.slice A0_0 l0_0.length c0_0, .slice A0_1 l0_1.length c0_1]] rfl lmB ?_; (with_reducible refine (laws_toSystem.calls k _ _ l0_0 _ _ l0_1 t315 t318 _ ?side1 ?side2 ?side3 ?side4 A10.out).mono ?_); (case side1 => repeat (first | exact (Kd.C_below HR0_0.out HB.out) | (with_reducible refine Kd.C_alloc ?_ _) | (with_reducible refine Kd.C_drewN ?_ _) | (with_reducible refine Kd.C_drew ?_))); (case side2 => exact HC0_0.out); (case side3 => repeat (first | exact (Kd.C_below HR0_1.out HB.out) | (with_reducible refine Kd.C_alloc ?_ _) | (with_reducible refine Kd.C_drewN ?_ _) | (with_reducible refine Kd.C_drew ?_))); (case side4 => exact HC0_1.out); rintro e w76 ⟨v316, v319, rfl, ho0, ho1, hb⟩; refine ⟨_, rfl, ?_⟩; have n0_ := Aside0.mk (Kd.R_lower ho0 (below_size (by repeat (first | (with_reducible first | exact HB.out | apply bwA | apply bwN | apply bwD | refine below_set ?_ GE313.out) | exact HB.out)))); have n1_ := Aside0.mk (Kd.R_lower ho1 (below_size (by repeat (first | (with_reducible first | exact HB.out | apply bwA | apply bwN | apply bwD | refine below_set ?_ GE313.out) | exact HB.out)))); have n2_ := Aside0.mk (blk_below (g := gb313) (o := .cells #[.slice A0_0 l0_0.length c0_0, .slice A0_1 l0_1.length c0_1] 52 (0, 0)) (bvK BK313.out) hb); have n3_ := Aside0.mk (below_step (by repeat (first | (with_reducible first | exact HB.out | apply bwA | apply bwN | apply bwD | refine below_set ?_ GE313.out) | exact HB.out)) hb); clear BK313; clear HB; have HO317 := n0_; have HO320 := n1_; have BK313 := n2_; have HB := n3_; clear n0_ n1_ n2_ n3_; (try clear hb); (try clear hb2); (try clear hk); (try clear hi); (try clear ho0); (try clear ho1)) | ((with_reducible refine gate_callee (f := 16) rfl ?_); refine goesL_ (some 21) rfl rfl Try.func16 (by kernel_rfl) rfl #[.slice A1 l1.length c1] rfl lmB ?_; (with_reducible refine (laws_toIntS.calls k _ _ l1 t321 _ ?side1 ?side2 A11.out).mono ?_); (case side1 => repeat (first | exact (Kd.C_below HR1.out HB.out) | (with_reducible refine Kd.C_alloc ?_ _) | (with_reducible refine Kd.C_drewN ?_ _) | (with_reducible refine Kd.C_drew ?_))); (case side2 => exact HC1.out); rintro e w77 ⟨v322, rfl, ho0, hb⟩; refine ⟨_, rfl, ?_⟩; have n0_ := Aside0.mk (Kd.R_below (rvR HO317.out) hb); have n1_ := Aside0.mk (Kd.R_elder' (rvR HO320.out) (Kd.R_base ho0) hb); have n2_ := Aside0.mk (Kd.R_lower ho0 (below_size (by repeat (first | (with_reducible first | exact HB.out | apply bwA | apply bwN | apply bwD | refine below_set ?_ GE313.out) | exact HB.out)))); have n3_ := Aside0.mk (blk_below (g := gb313) (o := .cells #[.slice A0_0 l0_0.length c0_0, .slice A0_1 l0_1.length c0_1] 52 (0, 0)) (bvK BK313.out) hb); have n4_ := Aside0.mk (below_step (by repeat (first | (with_reducible first | exact HB.out | apply bwA | apply bwN | apply bwD | refine below_set ?_ GE313.out) | exact HB.out)) hb); clear HO317; clear HO320; clear BK313; clear HB; have HO317 := n0_; have HO320 := n1_; have HO323 := n2_; have BK313 := n3_; have HB := n4_; clear n0_ n1_ n2_ n3_ n4_; (try clear hb); (try clear hb2); (try clear hk); (try clear hi); (try clear ho0); obtain ⟨Ao78, co78, eo78⟩ := Kd.R_slice HO317.out; subst eo78; obtain ⟨Ao79, co79, eo79⟩ := Kd.R_slice HO320.out; subst eo79; obtain ⟨Ao80, co80, eo80⟩ := Kd.R_slice HO323.out; subst eo80) | ((with_reducible refine gate_callee (f := 38) rfl ?_); refine goesL_ (some 22) rfl rfl Try.func38 (by kernel_rfl) rfl #[.agg #[.slice Ao78 t315.length co78, .slice Ao79 t318.length co79], .slice Ao80 t321.length co80] rfl lmB ?_; (with_reducible refine (spec_RulesSet.calls k _ _ t315 _ _ t318 _ _ t321 t324 _ ?side1 ?side2 ?side3 ?side4 ?side5 ?side6 A12.out).mono ?_); (case side1 => repeat (first | exact (Kd.R_reads' HO317.out).2.2 | (with_reducible refine Kd.C_alloc ?_ _) | (with_reducible refine Kd.C_drewN ?_ _) | (with_reducible refine Kd.C_drew ?_))); (case side2 => exact (Kd.R_reads' HO317.out).2.1); (case side3 => repeat (first | exact (Kd.R_reads' HO320.out).2.2 | (with_reducible refine Kd.C_alloc ?_ _) | (with_reducible refine Kd.C_drewN ?_ _) | (with_reducible refine Kd.C_drew ?_))); (case side4 => exact (Kd.R_reads' HO320.out).2.1); (case side5 => repeat (first | exact (Kd.R_reads' HO323.out).2.2 | (with_reducible refine Kd.C_alloc ?_ _) | (with_reducible refine Kd.C_drewN ?_ _) | (with_reducible refine Kd.C_drew ?_))); (case side6 => exact (Kd.R_reads' HO323.out).2.1); rintro e w81 ⟨rfl, hb⟩; refine ⟨_, rfl, ?_⟩; have n0_ := Aside0.mk (Kd.R_below (rvR HO317.out) hb); have n1_ := Aside0.mk (Kd.R_below (rvR HO320.out) hb); have n2_ := Aside0.mk (Kd.R_below (rvR HO323.out) hb); have n3_ := Aside0.mk (blk_below (g := gb313) (o := .cells #[.slice A0_0 l0_0.length c0_0, .slice A0_1 l0_1.length c0_1] 52 (0, 0)) (bvK BK313.out) hb); have n4_ := Aside0.mk (below_step (by repeat (first | (with_reducible first | exact HB.out | apply bwA | apply bwN | apply bwD | refine below_set ?_ GE313.out) | exact HB.out)) hb); clear HO317; clear HO320; clear HO323; clear BK313; clear HB; have HO317 := n0_; have HO320 := n1_; have HO323 := n2_; have BK313 := n3_; have HB := n4_; clear n0_ n1_ n2_ n3_ n4_; (try clear hb); (try clear hb2); (try clear hk); (try clear hi); have hcz82_0 : w81.cell? ⟨gb313, 0, none⟩ = some (.slice A0_0 l0_0.length c0_0) := (blk_cell BK313.out 0).trans rfl; have hcz82_1 : w81.cell? ⟨gb313, 1, none⟩ = some (.slice A0_1 l0_1.length c0_1) := (blk_cell BK313.out 1).trans rfl; have hfz82_0 := blk_frozen BK313.out 0; have hfz82_1 := blk_frozen BK313.out 1) | ((with_reducible refine gate_callee (f := 35) rfl ?_); refine goesL_ (some 24) rfl rfl Try.func35 (by kernel_rfl) rfl #[.agg #[.slice A0_0 l0_0.length c0_0, .slice A0_1 l0_1.length c0_1]] rfl lmB ?_; (with_reducible refine (laws_toSystem.calls k _ _ l0_0 _ _ l0_1 t325 t328 _ ?side1 ?side2 ?side3 ?side4 A13.out).mono ?_); (case side1 => repeat (first | exact (Kd.C_below HR0_0.out HB.out) | (with_reducible refine Kd.C_alloc ?_ _) | (with_reducible refine Kd.C_drewN ?_ _) | (with_reducible refine Kd.C_drew ?_))); (case side2 => exact HC0_0.out); (case side3 => repeat (first | exact (Kd.C_below HR0_1.out HB.out) | (with_reducible refine Kd.C_alloc ?_ _) | (with_reducible refine Kd.C_drewN ?_ _) | (with_reducible refine Kd.C_drew ?_))); (case side4 => exact HC0_1.out); rintro e w83 ⟨v326, v329, rfl, ho0, ho1, hb⟩; refine ⟨_, rfl, ?_⟩; have n0_ := Aside0.mk (Kd.R_elder' (rvR HO317.out) (Kd.R_base ho0) hb); have n1_ := Aside0.mk (Kd.R_elder' (rvR HO320.out) (Kd.R_base ho1) hb); have n2_ := Aside0.mk (Kd.R_below (rvR HO323.out) hb); have n3_ := Aside0.mk (Kd.R_lower (Kd.R_new' ho0 (Kd.R_lt (rvR HO317.out))) (below_size (by repeat (first | (with_reducible first | exact HB.out | apply bwA | apply bwN | apply bwD | refine below_set ?_ GE313.out) | exact HB.out)))); have n4_ := Aside0.mk (Kd.R_lower (Kd.R_new' (Kd.R_new' ho1 (Kd.R_lt (rvR HO320.out))) (Kd.R_lt (rvR HO323.out))) (below_size (by repeat (first | (with_reducible first | exact HB.out | apply bwA | apply bwN | apply bwD | refine below_set ?_ GE313.out) | exact HB.out)))); have n5_ := Aside0.mk (blk_below (g := gb313) (o := .cells #[.slice A0_0 l0_0.length c0_0, .slice A0_1 l0_1.length c0_1] 52 (0, 0)) (bvK BK313.out) hb); have n6_ := Aside0.mk (below_step (by repeat (first | (with_reducible first | exact HB.out | apply bwA | apply bwN | apply bwD | refine below_set ?_ GE313.out) | exact HB.out)) hb); clear HO317; clear HO320; clear HO323; clear BK313; clear HB; have HO317 := n0_; have HO320 := n1_; have HO323 := n2_; have HO327 := n3_; have HO330 := n4_; have BK313 := n5_; have HB := n6_; clear n0_ n1_ n2_ n3_ n4_ n5_ n6_; (try clear hb); (try clear hb2); (try clear hk); (try clear hi); (try clear ho0); (try clear ho1)) | ((with_reducible refine gate_dst (N := 7) rfl ?_); refine box_event ?hg (N := 7) ?hd (cs := #[.slice none 0 0, .slice none 0 0]) (t := 58) ?hr ?_; (case hd => rfl); (case hg => rfl); (case hr => first | (go_simp; done) | (go_simp; rfl)); intro gb331 hg w84 hbox hb; have n0_ := Aside0.mk (Kd.R_below (rvR HO317.out) hb); have n1_ := Aside0.mk (Kd.R_below (rvR HO320.out) hb); have n2_ := Aside0.mk (Kd.R_below (rvR HO323.out) hb); have n3_ := Aside0.mk (Kd.R_below (rvR HO327.out) hb); have n4_ := Aside0.mk (Kd.R_below (rvR HO330.out) hb); have n5_ := Aside0.mk (blk_below (g := gb313) (o := .cells #[.slice A0_0 l0_0.length c0_0, .slice A0_1 l0_1.length c0_1] 52 (0, 0)) (bvK BK313.out) hb); have n6_ := Aside0.mk (below_step (by repeat (first | (with_reducible first | exact HB.out | apply bwA | apply bwN | apply bwD | refine below_set ?_ GE313.out) | exact HB.out)) hb); have n7_ := Aside0.mk (hbox); have n8_ := Aside0.mk ((by rw [hg]; exact (below_size (by repeat (first | (with_reducible first | exact HB.out | apply bwA | apply bwN | apply bwD | refine below_set ?_ GE313.out) | exact HB.out))) : w.heap.size ≤ gb331)); have n9_ := Aside0.mk ((by rw [hg]; exact (below_size (by repeat (first | (with_reducible first | exact HB.out | apply bwA | apply bwN | apply bwD | refine below_set ?_ GE313.out) | exact HB.out))) : w.heap.size ≤ gb331)); have n10_ := Aside0.mk ((by rw [hg]; exact Nat.ne_of_lt (blk_lt (g := gb313) (o := .cells #[.slice A0_0 l0_0.length c0_0, .slice A0_1 l0_1.length c0_1] 52 (0, 0)) (bvK BK313.out)) : gb313 ≠ gb331)); have n11_ := Aside0.mk ((by rw [hg]; exact Nat.ne_of_gt (blk_lt (g := gb313) (o := .cells #[.slice A0_0 l0_0.length c0_0, .slice A0_1 l0_1.length c0_1] 52 (0, 0)) (bvK BK313.out)) : gb331 ≠ gb313)); clear HO317; clear HO320; clear HO323; clear HO327; clear HO330; clear BK313; clear HB; have HO317 := n0_; have HO320 := n1_; have HO323 := n2_; have HO327 := n3_; have HO330 := n4_; have BK313 := n5_; have HB := n6_; have BK331 := n7_; have GW331 := n8_; have GE331 := n9_; have NB313_331 := n10_; have NB331_313 := n11_; clear n0_ n1_ n2_ n3_ n4_ n5_ n6_ n7_ n8_ n9_ n10_ n11_; clear hb hbox hg; obtain ⟨Ao85, co85, eo85⟩ := Kd.R_slice HO327.out; subst eo85; have hnb86 := NB331_313.out; have hnc86 := NB313_331.out; have hcz87_0 : w84.cell? ⟨gb331, 0, none⟩ = some (.slice none 0 0) := (blk_cell BK331.out 0).trans rfl; have hcz87_1 : w84.cell? ⟨gb331, 1, none⟩ = some (.slice none 0 0) := (blk_cell BK331.out 1).trans rfl; have hfz87_0 := blk_frozen BK331.out 0; have hfz87_1 := blk_frozen BK331.out 1; obtain ⟨Ao88, co88, eo88⟩ := Kd.R_slice HO330.out; subst eo88) | ((with_reducible refine gate_callee (f := 16) rfl ?_); refine goesL_ (some 26) rfl rfl Try.func16 (by kernel_rfl) rfl #[.slice A1 l1.length c1] rfl lmB ?_; (with_reducible refine (laws_toIntS.calls k _ _ l1 t332 _ ?side1 ?side2 A14.out).mono ?_); (case side1 => exact Kd.C_below HR1.out (by repeat (first | (with_reducible first | exact HB.out | apply bwA | apply bwN | apply bwD | refine below_set ?_ GE313.out | refine below_set ?_ GE331.out) | exact HB.out))); (case side2 => exact HC1.out); rintro e w89 ⟨v333, rfl, ho0, hb⟩; refine ⟨_, rfl, ?_⟩; have n0_ := Aside0.mk (Kd.R_below (by (with_reducible repeat (first | apply Kd.R_alloc | apply Kd.R_drewN | apply Kd.R_drew)); exact (Kd.R_mono (Kd.R_far (p := ⟨gb331, 1, none⟩) (Kd.R_far (p := ⟨gb331, 0, none⟩) (Kd.R_types HO317.out BK331.out (by decide)) (fun _ hk => hk.2) (.slice Ao85 t325.length co85)) (fun _ hk => hk.2) (.slice Ao88 t328.length co88)) (fun _ h_ => h_.1))) hb); have n1_ := Aside0.mk (Kd.R_elder' (by (with_reducible repeat (first | apply Kd.R_alloc | apply Kd.R_drewN | apply Kd.R_drew)); exact (Kd.R_mono (Kd.R_far (p := ⟨gb331, 1, none⟩) (Kd.R_far (p := ⟨gb331, 0, none⟩) (Kd.R_types HO320.out BK331.out (by decide)) (fun _ hk => hk.2) (.slice Ao85 t325.length co85)) (fun _ hk => hk.2) (.slice Ao88 t328.length co88)) (fun _ h_ => h_.1))) (Kd.R_base ho0) hb); have n2_ := Aside0.mk (Kd.R_elder' (by (with_reducible repeat (first | apply Kd.R_alloc | apply Kd.R_drewN | apply Kd.R_drew)); exact (Kd.R_mono (Kd.R_far (p := ⟨gb331, 1, none⟩) (Kd.R_far (p := ⟨gb331, 0, none⟩) (Kd.R_types HO323.out BK331.out (by decide)) (fun _ hk => hk.2) (.slice Ao85 t325.length co85)) (fun _ hk => hk.2) (.slice Ao88 t328.length co88)) (fun _ h_ => h_.1))) (Kd.R_base ho0) hb); have n3_ := Aside0.mk (Kd.R_below (by (with_reducible repeat (first | apply Kd.R_alloc | apply Kd.R_drewN | apply Kd.R_drew)); exact (Kd.R_mono (Kd.R_far (p := ⟨gb331, 1, none⟩) (Kd.R_far (p := ⟨gb331, 0, none⟩) (Kd.R_types HO327.out BK331.out (by decide)) (fun _ hk => hk.2) (.slice Ao85 t325.length co85)) (fun _ hk => hk.2) (.slice Ao88 t328.length co88)) (fun _ h_ => h_.1))) hb); have n4_ := Aside0.mk (Kd.R_elder' (by (with_reducible repeat (first | apply Kd.R_alloc | apply Kd.R_drewN | apply Kd.R_drew)); exact (Kd.R_mono (Kd.R_far (p := ⟨gb331, 1, none⟩) (Kd.R_far (p := ⟨gb331, 0, none⟩) (Kd.R_types HO330.out BK331.out (by decide)) (fun _ hk => hk.2) (.slice Ao85 t325.length co85)) (fun _ hk => hk.2) (.slice Ao88 t328.length co88)) (fun _ h_ => h_.1))) (Kd.R_base ho0) hb); have n5_ := Aside0.mk (Kd.R_lower (Kd.R_new' ho0 (Kd.R_lt (by (with_reducible repeat (first | apply Kd.R_alloc | apply Kd.R_drewN | apply Kd.R_drew)); exact (Kd.R_mono (Kd.R_far (p := ⟨gb331, 1, none⟩) (Kd.R_far (p := ⟨gb331, 0, none⟩) (Kd.R_types HO323.out BK331.out (by decide)) (fun _ hk => hk.2) (.slice Ao85 t325.length co85)) (fun _ hk => hk.2) (.slice Ao88 t328.length co88)) (fun _ h_ => h_.1))))) (below_size (by repeat (first | (with_reducible first | exact HB.out | apply bwA | apply bwN | apply bwD | refine below_set ?_ GE313.out | refine below_set ?_ GE331.out) | exact HB.out)))); have n6_ := Aside0.mk (blk_below (g := gb313) (o := .cells #[.slice A0_0 l0_0.length c0_0, .slice A0_1 l0_1.length c0_1] 52 (0, 0)) (by (with_reducible repeat (first | refine blk_drewN ?_ _ | refine blk_drew ?_ | refine blk_alloc ?_ _)); refine blk_far ?_ NB313_331.out _; (with_reducible repeat (first | refine blk_drewN ?_ _ | refine blk_drew ?_ | refine blk_alloc ?_ _)); refine blk_far ?_ NB313_331.out _; (with_reducible repeat (first | refine blk_drewN ?_ _ | refine blk_drew ?_ | refine blk_alloc ?_ _)); exact BK313.out) hb); have n7_ := Aside0.mk (blk_below (g := gb331) (o := .cells #[.slice Ao85 t325.length co85, .slice Ao88 t328.length co88] 58 (0, 0)) (by (with_reducible repeat (first | refine blk_drewN ?_ _ | refine blk_drew ?_ | refine blk_alloc ?_ _)); refine blk_put (cs := #[.slice Ao85 t325.length co85, .slice none 0 0]) ?_ 1 _ rfl; (with_reducible repeat (first | refine blk_drewN ?_ _ | refine blk_drew ?_ | refine blk_alloc ?_ _)); refine blk_put (cs := #[.slice none 0 0, .slice none 0 0]) ?_ 0 _ rfl; (with_reducible repeat (first | refine blk_drewN ?_ _ | refine blk_drew ?_ | refine blk_alloc ?_ _)); exact BK331.out) hb); have n8_ := Aside0.mk (below_step (by repeat (first | (with_reducible first | exact HB.out | apply bwA | apply bwN | apply bwD | refine below_set ?_ GE313.out | refine below_set ?_ GE331.out) | exact HB.out)) hb); clear HO317; clear HO320; clear HO323; clear HO327; clear HO330; clear BK313; clear BK331; clear HB; have HO317 := n0_; have HO320 := n1_; have HO323 := n2_; have HO327 := n3_; have HO330 := n4_; have HO334 := n5_; have BK313 := n6_; have BK331 := n7_; have HB := n8_; clear n0_ n1_ n2_ n3_ n4_ n5_ n6_ n7_ n8_; (try clear hb); (try clear hb2); (try clear hk); (try clear hi); (try clear ho0); have hcz90_0 : w89.cell? ⟨gb331, 0, none⟩ = some (.slice Ao85 t325.length co85) := (blk_cell BK331.out 0).trans rfl; have hcz90_1 : w89.cell? ⟨gb331, 1, none⟩ = some (.slice Ao88 t328.length co88) := (blk_cell BK331.out 1).trans rfl; have hfz90_0 := blk_frozen BK331.out 0; have hfz90_1 := blk_frozen BK331.out 1; obtain ⟨Ao91, co91, eo91⟩ := Kd.R_slice HO334.out; subst eo91) | ((with_reducible refine gate_callee (f := 39) rfl ?_); refine goesL_ (some 29) rfl rfl Try.func39 (by kernel_rfl) rfl #[.agg #[.slice Ao85 t325.length co85, .slice Ao88 t328.length co88], .slice Ao91 t332.length co91] rfl lmB ?_; (with_reducible refine (impl_RulesSet.calls k _ _ t325 _ _ t328 _ _ t332 t335 _ ?side1 ?side2 ?side3 ?side4 ?side5 ?side6 A15.out).mono ?_); (case side1 => repeat (first | exact (Kd.R_reads' HO327.out).2.2 | (with_reducible refine Kd.C_alloc ?_ _) | (with_reducible refine Kd.C_drewN ?_ _) | (with_reducible refine Kd.C_drew ?_))); (case side2 => exact (Kd.R_reads' HO327.out).2.1); (case side3 => repeat (first | exact (Kd.R_reads' HO330.out).2.2 | (with_reducible refine Kd.C_alloc ?_ _) | (with_reducible refine Kd.C_drewN ?_ _) | (with_reducible refine Kd.C_drew ?_))); (case side4 => exact (Kd.R_reads' HO330.out).2.1); (case side5 => repeat (first | exact (Kd.R_reads' HO334.out).2.2 | (with_reducible refine Kd.C_alloc ?_ _) | (with_reducible refine Kd.C_drewN ?_ _) | (with_reducible refine Kd.C_drew ?_))); (case side6 => exact (Kd.R_reads' HO334.out).2.1); rintro e w92 ⟨rfl, hb⟩; refine ⟨_, rfl, ?_⟩; have n0_ := Aside0.mk (Kd.R_below (rvR HO317.out) hb); have n1_ := Aside0.mk (Kd.R_below (rvR HO320.out) hb); have n2_ := Aside0.mk (Kd.R_below (rvR HO323.out) hb); have n3_ := Aside0.mk (Kd.R_below (rvR HO327.out) hb); have n4_ := Aside0.mk (Kd.R_below (rvR HO330.out) hb); have n5_ := Aside0.mk (Kd.R_below (rvR HO334.out) hb); have n6_ := Aside0.mk (blk_below (g := gb313) (o := .cells #[.slice A0_0 l0_0.length c0_0, .slice A0_1 l0_1.length c0_1] 52 (0, 0)) (bvK BK313.out) hb); have n7_ := Aside0.mk (blk_below (g := gb331) (o := .cells #[.slice Ao85 t325.length co85, .slice Ao88 t328.length co88] 58 (0, 0)) (bvK BK331.out) hb); have n8_ := Aside0.mk (below_step (by repeat (first | (with_reducible first | exact HB.out | apply bwA | apply bwN | apply bwD | refine below_set ?_ GE313.out | refine below_set ?_ GE331.out) | exact HB.out)) hb); clear HO317; clear HO320; clear HO323; clear HO327; clear HO330; clear HO334; clear BK313; clear BK331; clear HB; have HO317 := n0_; have HO320 := n1_; have HO323 := n2_; have HO327 := n3_; have HO330 := n4_; have HO334 := n5_; have BK313 := n6_; have BK331 := n7_; have HB := n8_; clear n0_ n1_ n2_ n3_ n4_ n5_ n6_ n7_ n8_; (try clear hb); (try clear hb2); (try clear hk); (try clear hi)))
      have n0_ := Aside0.mk (Kd.R_drew HO317.out)
      have n1_ := Aside0.mk (Kd.R_drew HO320.out)
      have n2_ := Aside0.mk (Kd.R_drew HO323.out)
      have n3_ := Aside0.mk (Kd.R_drew HO327.out)
      have n4_ := Aside0.mk (Kd.R_drew HO330.out)
      have n5_ := Aside0.mk (Kd.R_drew HO334.out)
      have n6_ := Aside0.mk (blk_drew BK313.out)
      have n7_ := Aside0.mk (blk_drew BK331.out)
      have n8_ := Aside0.mk (below_drew1 HB.out)
      clear HO317
      clear HO320
      clear HO323
      clear HO327
      clear HO330
      clear HO334
      clear BK313
      clear BK331
      clear HB
      have HO317 := n0_
      have HO320 := n1_
      have HO323 := n2_
      have HO327 := n3_
      have HO330 := n4_
      have HO334 := n5_
      have BK313 := n6_
      have BK331 := n7_
      have HB := n8_
      clear n0_ n1_ n2_ n3_ n4_ n5_ n6_ n7_ n8_
      refine start_ (n := 5) (S := fun w' => w'.cell? ⟨gb331, 0, none⟩ = some (.slice Ao85 t325.length co85) ∧ w'.cell? ⟨gb331, 1, none⟩ = some (.slice Ao88 t328.length co88) ∧ w'.cell? ⟨gb313, 0, none⟩ = some (.slice A0_0 l0_0.length c0_0) ∧ w'.cell? ⟨gb313, 1, none⟩ = some (.slice A0_1 l0_1.length c0_1)) (ds := []) #[false, false, false, false, false] (by kernel_rfl) rfl rfl ⟨(blk_cell BK331.out 0).trans rfl, (blk_cell BK331.out 1).trans rfl, (blk_cell BK313.out 0).trans rfl, (blk_cell BK313.out 1).trans rfl⟩ (fun hHeld => ?_)
      generalize w92.drew = w93 at HO317 HO320 HO323 HO327 HO330 HO334 BK313 BK331 HB hHeld ⊢
      refine take_ (i := 0) (N := some 33) (v := ?_) (a' := ?_) #[true, false, false, false, false] rfl rfl (by kernel_rfl) (fun _ _ _ h => h) (Or.inl ⟨by rfl, ?_⟩) hHeld ?_ ?_
      rotate_left
      ·rintro w' ⟨s0, s1, s2, s3⟩
       go_simp
       with_reducible rfl
      rotate_left
      ·simp only [Act.put, List.setIfInBounds_toArray, List.set_cons_zero, List.set_cons_succ, i64_w, i32_w]
       rfl
      refine take_ (i := 1) (N := some 34) (v := ?_) (a' := ?_) #[true, true, false, false, false] rfl rfl (by kernel_rfl) (fun _ _ _ h => h) (Or.inl ⟨by rfl, ?_⟩) hHeld ?_ ?_
      rotate_left
      ·rintro w' ⟨s0, s1, s2, s3⟩
       go_simp
       with_reducible rfl
      rotate_left
      ·simp only [Act.put, List.setIfInBounds_toArray, List.set_cons_zero, List.set_cons_succ, i64_w, i32_w]
       rfl
      refine one_ (i := 2) (N := some 35) #[true, true, true, false, false] rfl rfl (by kernel_rfl) (by decide) (fun K hK => ?_)
      refine goes_ Try.func35 (by kernel_rfl) rfl #[.agg #[.slice A0_0 l0_0.length c0_0, .slice A0_1 l0_1.length c0_1]] (by rfl) rfl rfl lmB ?_
      with_reducible refine (laws_toSystem.calls k _ _ l0_0 _ _ l0_1 t336 t339 _ ?side1 ?side2 ?side3 ?side4 A38.out).mono ?_
      (case side1 => repeat (first | exact (Kd.C_below HR0_0.out HB.out) | (with_reducible refine Kd.C_alloc ?_ _) | (with_reducible refine Kd.C_drewN ?_ _) | (with_reducible refine Kd.C_drew ?_)))
      (case side2 => exact HC0_0.out)
      (case side3 => repeat (first | exact (Kd.C_below HR0_1.out HB.out) | (with_reducible refine Kd.C_alloc ?_ _) | (with_reducible refine Kd.C_drewN ?_ _) | (with_reducible refine Kd.C_drew ?_)))
      (case side4 => exact HC0_1.out)
      rintro e w94 ⟨v337, v340, rfl, ho0, ho1, hb⟩
      refine ⟨_, rfl, ?_⟩
      have n0_ := Aside0.mk (Kd.R_elder' (rvR HO317.out) (Kd.R_base ho0) hb)
      have n1_ := Aside0.mk (Kd.R_elder' (rvR HO320.out) (Kd.R_base ho1) hb)
      have n2_ := Aside0.mk (Kd.R_below (rvR HO323.out) hb)
      have n3_ := Aside0.mk (Kd.R_elder' (rvR HO327.out) (Kd.R_base ho0) hb)
      have n4_ := Aside0.mk (Kd.R_elder' (rvR HO330.out) (Kd.R_base ho1) hb)
      have n5_ := Aside0.mk (Kd.R_below (rvR HO334.out) hb)
      have n6_ := Aside0.mk (Kd.R_lower (Kd.R_new' (Kd.R_new' ho0 (Kd.R_lt (rvR HO317.out))) (Kd.R_lt (rvR HO327.out))) (below_size (by repeat (first | (with_reducible first | exact HB.out | apply bwA | apply bwN | apply bwD | refine below_set ?_ GE313.out | refine below_set ?_ GE331.out) | exact HB.out))))
      have n7_ := Aside0.mk (Kd.R_lower (Kd.R_new' (Kd.R_new' (Kd.R_new' (Kd.R_new' ho1 (Kd.R_lt (rvR HO320.out))) (Kd.R_lt (rvR HO323.out))) (Kd.R_lt (rvR HO330.out))) (Kd.R_lt (rvR HO334.out))) (below_size (by repeat (first | (with_reducible first | exact HB.out | apply bwA | apply bwN | apply bwD | refine below_set ?_ GE313.out | refine below_set ?_ GE331.out) | exact HB.out))))
      have n8_ := Aside0.mk (blk_below (g := gb313) (o := .cells #[.slice A0_0 l0_0.length c0_0, .slice A0_1 l0_1.length c0_1] 52 (0, 0)) (bvK BK313.out) hb)
      have n9_ := Aside0.mk (blk_below (g := gb331) (o := .cells #[.slice Ao85 t325.length co85, .slice Ao88 t328.length co88] 58 (0, 0)) (bvK BK331.out) hb)
      have n10_ := Aside0.mk (below_step (by repeat (first | (with_reducible first | exact HB.out | apply bwA | apply bwN | apply bwD | refine below_set ?_ GE313.out | refine below_set ?_ GE331.out) | exact HB.out)) hb)
      clear HO317
      clear HO320
      clear HO323
      clear HO327
      clear HO330
      clear HO334
      clear BK313
      clear BK331
      clear HB
      have HO317 := n0_
      have HO320 := n1_
      have HO323 := n2_
      have HO327 := n3_
      have HO330 := n4_
      have HO334 := n5_
      have HO338 := n6_
      have HO341 := n7_
      have BK313 := n8_
      have BK331 := n9_
      have HB := n10_
      clear n0_ n1_ n2_ n3_ n4_ n5_ n6_ n7_ n8_ n9_ n10_
      (try clear hb)
      (try clear hb2)
      (try clear hk)
      (try clear hi)
      (try clear ho0)
      (try clear ho1)
      obtain ⟨Ao95, co95, eo95⟩ := Kd.R_slice HO338.out
      (first | subst eo95 | (injection eo95 with f1_ f2_ f3_; have f4_ := f1_.symm; have f5_ := f3_.symm; clear f1_ f2_ f3_; subst f4_; subst f5_))
      obtain ⟨Ao96, co96, eo96⟩ := Kd.R_slice HO341.out
      (first | subst eo96 | (injection eo96 with f1_ f2_ f3_; have f4_ := f1_.symm; have f5_ := f3_.symm; clear f1_ f2_ f3_; subst f4_; subst f5_))
      refine hK.out _ _ ⟨(blk_cell BK331.out 0).trans rfl, (blk_cell BK331.out 1).trans rfl, (blk_cell BK313.out 0).trans rfl, (blk_cell BK313.out 1).trans rfl⟩ (fun hHeld => ?_)
      clear hK K
      refine norm_ (a' := ?_) ?_ ?_
      rotate_left
      ·show Act.put _ (some 35) _ = _
       simp only [Act.put, List.setIfInBounds_toArray, List.set_cons_zero, List.set_cons_succ, i64_w, i32_w]
       rfl
      refine one_ (i := 3) (N := some 36) #[true, true, true, true, false] rfl rfl (by kernel_rfl) (by decide) (fun K hK => ?_)
      refine goes_ Try.func37 (by kernel_rfl) rfl #[.agg #[.slice Ao85 t325.length co85, .slice Ao88 t328.length co88], .agg #[.slice Ao95 t336.length co95, .slice Ao96 t339.length co96]] (by rfl) rfl rfl lmB ?_
      with_reducible refine (laws_eqSystem.calls k _ _ t325 _ _ t328 _ _ t336 _ _ t339 true _ ?side1 ?side2 ?side3 ?side4 ?side5 ?side6 ?side7 ?side8 A39.out).mono ?_
      (case side1 => repeat (first | exact (Kd.R_reads' HO327.out).2.2 | (with_reducible refine Kd.C_alloc ?_ _) | (with_reducible refine Kd.C_drewN ?_ _) | (with_reducible refine Kd.C_drew ?_)))
      (case side2 => exact (Kd.R_reads' HO327.out).2.1)
      (case side3 => repeat (first | exact (Kd.R_reads' HO330.out).2.2 | (with_reducible refine Kd.C_alloc ?_ _) | (with_reducible refine Kd.C_drewN ?_ _) | (with_reducible refine Kd.C_drew ?_)))
      (case side4 => exact (Kd.R_reads' HO330.out).2.1)
      (case side5 => repeat (first | exact (Kd.R_reads' HO338.out).2.2 | (with_reducible refine Kd.C_alloc ?_ _) | (with_reducible refine Kd.C_drewN ?_ _) | (with_reducible refine Kd.C_drew ?_)))
      (case side6 => exact (Kd.R_reads' HO338.out).2.1)
      (case side7 => repeat (first | exact (Kd.R_reads' HO341.out).2.2 | (with_reducible refine Kd.C_alloc ?_ _) | (with_reducible refine Kd.C_drewN ?_ _) | (with_reducible refine Kd.C_drew ?_)))
      (case side8 => exact (Kd.R_reads' HO341.out).2.1)
      rintro e w97 ⟨rfl, hb⟩
      refine ⟨_, rfl, ?_⟩
      have n0_ := Aside0.mk (Kd.R_below (rvR HO317.out) hb)
      have n1_ := Aside0.mk (Kd.R_below (rvR HO320.out) hb)
      have n2_ := Aside0.mk (Kd.R_below (rvR HO323.out) hb)
      have n3_ := Aside0.mk (Kd.R_below (rvR HO327.out) hb)
      have n4_ := Aside0.mk (Kd.R_below (rvR HO330.out) hb)
      have n5_ := Aside0.mk (Kd.R_below (rvR HO334.out) hb)
      have n6_ := Aside0.mk (Kd.R_below (rvR HO338.out) hb)
      have n7_ := Aside0.mk (Kd.R_below (rvR HO341.out) hb)
      have n8_ := Aside0.mk (blk_below (g := gb313) (o := .cells #[.slice A0_0 l0_0.length c0_0, .slice A0_1 l0_1.length c0_1] 52 (0, 0)) (bvK BK313.out) hb)
      have n9_ := Aside0.mk (blk_below (g := gb331) (o := .cells #[.slice Ao85 t325.length co85, .slice Ao88 t328.length co88] 58 (0, 0)) (bvK BK331.out) hb)
      have n10_ := Aside0.mk (below_step (by repeat (first | (with_reducible first | exact HB.out | apply bwA | apply bwN | apply bwD | refine below_set ?_ GE313.out | refine below_set ?_ GE331.out) | exact HB.out)) hb)
      clear HO317
      clear HO320
      clear HO323
      clear HO327
      clear HO330
      clear HO334
      clear HO338
      clear HO341
      clear BK313
      clear BK331
      clear HB
      have HO317 := n0_
      have HO320 := n1_
      have HO323 := n2_
      have HO327 := n3_
      have HO330 := n4_
      have HO334 := n5_
      have HO338 := n6_
      have HO341 := n7_
      have BK313 := n8_
      have BK331 := n9_
      have HB := n10_
      clear n0_ n1_ n2_ n3_ n4_ n5_ n6_ n7_ n8_ n9_ n10_
      (try clear hb)
      (try clear hb2)
      (try clear hk)
      (try clear hi)
      refine hK.out _ _ ⟨(blk_cell BK331.out 0).trans rfl, (blk_cell BK331.out 1).trans rfl, (blk_cell BK313.out 0).trans rfl, (blk_cell BK313.out 1).trans rfl⟩ (fun hHeld => ?_)
      clear hK K
      refine norm_ (a' := ?_) ?_ ?_
      rotate_left
      ·show Act.put _ (some 36) _ = _
       simp only [Act.put, List.setIfInBounds_toArray, List.set_cons_zero, List.set_cons_succ, i64_w, i32_w]
       rfl
      refine pure_ (i := 4) (N := some 37) (v := ?_) (a' := ?_) #[true, true, true, true, true] rfl rfl (by kernel_rfl) (fun _ _ _ h => h) (Or.inl ⟨by rfl, ?_⟩) ?_ ?_
      rotate_left
      ·intro w'
       go_simp
       with_reducible rfl
      rotate_left
      ·simp only [Act.put, List.setIfInBounds_toArray, List.set_cons_zero, List.set_cons_succ, i64_w, i32_w]
       rfl
      refine done_ (by kernel_rfl) ?_
      try go_wp2_with (first | ((with_reducible refine gate_callee (f := 16) rfl ?_); refine goesL_ (some 40) rfl rfl Try.func16 (by kernel_rfl) rfl #[.slice A1 l1.length c1] rfl lmB ?_; (with_reducible refine (laws_toIntS.calls k _ _ l1 t343 _ ?side1 ?side2 A41.out).mono ?_); (case side1 => repeat (first | exact (Kd.C_below HR1.out HB.out) | (with_reducible refine Kd.C_alloc ?_ _) | (with_reducible refine Kd.C_drewN ?_ _) | (with_reducible refine Kd.C_drew ?_))); (case side2 => exact HC1.out); rintro e w98 ⟨v344, rfl, ho0, hb⟩; refine ⟨_, rfl, ?_⟩; have n0_ := Aside0.mk (Kd.R_below (rvR HO317.out) hb); have n1_ := Aside0.mk (Kd.R_elder' (rvR HO320.out) (Kd.R_base ho0) hb); have n2_ := Aside0.mk (Kd.R_elder' (rvR HO323.out) (Kd.R_base ho0) hb); have n3_ := Aside0.mk (Kd.R_below (rvR HO327.out) hb); have n4_ := Aside0.mk (Kd.R_elder' (rvR HO330.out) (Kd.R_base ho0) hb); have n5_ := Aside0.mk (Kd.R_elder' (rvR HO334.out) (Kd.R_base ho0) hb); have n6_ := Aside0.mk (Kd.R_below (rvR HO338.out) hb); have n7_ := Aside0.mk (Kd.R_elder' (rvR HO341.out) (Kd.R_base ho0) hb); have n8_ := Aside0.mk (Kd.R_lower (Kd.R_new' (Kd.R_new' ho0 (Kd.R_lt (rvR HO323.out))) (Kd.R_lt (rvR HO334.out))) (below_size (by repeat (first | (with_reducible first | exact HB.out | apply bwA | apply bwN | apply bwD | refine below_set ?_ GE313.out | refine below_set ?_ GE331.out) | exact HB.out)))); have n9_ := Aside0.mk (blk_below (g := gb313) (o := .cells #[.slice A0_0 l0_0.length c0_0, .slice A0_1 l0_1.length c0_1] 52 (0, 0)) (bvK BK313.out) hb); have n10_ := Aside0.mk (blk_below (g := gb331) (o := .cells #[.slice Ao85 t325.length co85, .slice Ao88 t328.length co88] 58 (0, 0)) (bvK BK331.out) hb); have n11_ := Aside0.mk (below_step (by repeat (first | (with_reducible first | exact HB.out | apply bwA | apply bwN | apply bwD | refine below_set ?_ GE313.out | refine below_set ?_ GE331.out) | exact HB.out)) hb); clear HO317; clear HO320; clear HO323; clear HO327; clear HO330; clear HO334; clear HO338; clear HO341; clear BK313; clear BK331; clear HB; have HO317 := n0_; have HO320 := n1_; have HO323 := n2_; have HO327 := n3_; have HO330 := n4_; have HO334 := n5_; have HO338 := n6_; have HO341 := n7_; have HO345 := n8_; have BK313 := n9_; have BK331 := n10_; have HB := n11_; clear n0_ n1_ n2_ n3_ n4_ n5_ n6_ n7_ n8_ n9_ n10_ n11_; (try clear hb); (try clear hb2); (try clear hk); (try clear hi); (try clear ho0); obtain ⟨Ao99, co99, eo99⟩ := Kd.R_slice HO345.out; subst eo99) | ((with_reducible refine gate_callee (f := 19) rfl ?_); refine goesL_ (some 41) rfl rfl Try.func19 (by kernel_rfl) rfl #[.slice Ao91 t332.length co91, .slice Ao99 t343.length co99] rfl lmB ?_; (with_reducible refine (laws_eqIntS.calls k _ _ t332 _ _ t343 false _ ?side1 ?side2 ?side3 ?side4 A42.out).mono ?_); (case side1 => repeat (first | exact (Kd.R_reads' HO334.out).2.2 | (with_reducible refine Kd.C_alloc ?_ _) | (with_reducible refine Kd.C_drewN ?_ _) | (with_reducible refine Kd.C_drew ?_))); (case side2 => exact (Kd.R_reads' HO334.out).2.1); (case side3 => repeat (first | exact (Kd.R_reads' HO345.out).2.2 | (with_reducible refine Kd.C_alloc ?_ _) | (with_reducible refine Kd.C_drewN ?_ _) | (with_reducible refine Kd.C_drew ?_))); (case side4 => exact (Kd.R_reads' HO345.out).2.1); rintro e w' ⟨rfl, ⟨nd, rfl⟩⟩; refine ⟨_, rfl, ?_⟩))
      go_ret
      exact ⟨ers, by repeat (first | (with_reducible first | exact HB.out | apply bwA | apply bwN | apply bwD | refine below_set ?_ GE313.out | refine below_set ?_ GE331.out) | exact HB.out)⟩
    ·replace c40 := Bool.eq_false_iff.mpr c40
     subst c40
     have H1 : (some false) = some r := by rw [if_neg (show ¬ (false = true) by decide)] at H; exact H
     clear H
     have H := H1
     clear H1
     obtain rfl := Option.some.inj H
     go_enter Try.func9, Try.ntmps9
     try go_wp2_with (first | ((with_reducible refine gate_dst (N := 2) rfl ?_); refine box_event ?hg (N := 2) ?hd (cs := #[.slice A0_0 l0_0.length c0_0, .slice A0_1 l0_1.length c0_1]) (t := 52) ?hr ?_; (case hd => rfl); (case hg => rfl); (case hr => first | (go_simp; done) | (go_simp; rfl)); intro gb313 hg w100 hbox hb; have n0_ := Aside0.mk (below_step (by repeat (first | (with_reducible first | exact HB.out | apply bwA | apply bwN | apply bwD) | exact HB.out)) hb); have n1_ := Aside0.mk (hbox); have n2_ := Aside0.mk ((by rw [hg]; exact (below_size (by repeat (first | (with_reducible first | exact HB.out | apply bwA | apply bwN | apply bwD) | exact HB.out))) : w.heap.size ≤ gb313)); have n3_ := Aside0.mk ((by rw [hg]; exact (below_size (by repeat (first | (with_reducible first | exact HB.out | apply bwA | apply bwN | apply bwD) | exact HB.out))) : w.heap.size ≤ gb313)); clear HB; have HB := n0_; have BK313 := n1_; have GW313 := n2_; have GE313 := n3_; clear n0_ n1_ n2_ n3_; clear hb hbox hg; have hcz101_0 : w100.cell? ⟨gb313, 0, none⟩ = some (.slice A0_0 l0_0.length c0_0) := (blk_cell BK313.out 0).trans rfl; have hcz101_1 : w100.cell? ⟨gb313, 1, none⟩ = some (.slice A0_1 l0_1.length c0_1) := (blk_cell BK313.out 1).trans rfl; have hfz101_0 := blk_frozen BK313.out 0; have hfz101_1 := blk_frozen BK313.out 1) | ((with_reducible refine gate_callee (f := 33) rfl ?_); refine goesL_ (some 15) rfl rfl Try.func33 (by kernel_rfl) rfl #[.agg #[.slice A0_0 l0_0.length c0_0, .slice A0_1 l0_1.length c0_1], .int .i64 1048576] rfl lmB ?_; (with_reducible refine (laws_szSystem.calls k _ _ l0_0 _ _ l0_1 1048576 t314 _ ?side1 ?side2 ?side3 ?side4 A5.out).mono ?_); (case side1 => repeat (first | exact (Kd.C_below HR0_0.out HB.out) | (with_reducible refine Kd.C_alloc ?_ _) | (with_reducible refine Kd.C_drewN ?_ _) | (with_reducible refine Kd.C_drew ?_))); (case side2 => exact HC0_0.out); (case side3 => repeat (first | exact (Kd.C_below HR0_1.out HB.out) | (with_reducible refine Kd.C_alloc ?_ _) | (with_reducible refine Kd.C_drewN ?_ _) | (with_reducible refine Kd.C_drew ?_))); (case side4 => exact HC0_1.out); rintro e w102 ⟨rfl, hb⟩; refine ⟨_, rfl, ?_⟩; have n0_ := Aside0.mk (blk_below (g := gb313) (o := .cells #[.slice A0_0 l0_0.length c0_0, .slice A0_1 l0_1.length c0_1] 52 (0, 0)) (bvK BK313.out) hb); have n1_ := Aside0.mk (below_step (by repeat (first | (with_reducible first | exact HB.out | apply bwA | apply bwN | apply bwD | refine below_set ?_ GE313.out) | exact HB.out)) hb); clear BK313; clear HB; have BK313 := n0_; have HB := n1_; clear n0_ n1_; (try clear hb); (try clear hb2); (try clear hk); (try clear hi); have hcz103_0 : w102.cell? ⟨gb313, 0, none⟩ = some (.slice A0_0 l0_0.length c0_0) := (blk_cell BK313.out 0).trans rfl; have hcz103_1 : w102.cell? ⟨gb313, 1, none⟩ = some (.slice A0_1 l0_1.length c0_1) := (blk_cell BK313.out 1).trans rfl; have hfz103_0 := blk_frozen BK313.out 0; have hfz103_1 := blk_frozen BK313.out 1) | ((with_reducible refine gate_callee (f := 35) rfl ?_); refine goesL_ (some 19) rfl rfl Try.func35 (by kernel_rfl) rfl #[.agg #[.slice A0_0 l0_0.length c0_0, .slice A0_1 l0_1.length c0_1]] rfl lmB ?_; (with_reducible refine (laws_toSystem.calls k _ _ l0_0 _ _ l0_1 t315 t318 _ ?side1 ?side2 ?side3 ?side4 A10.out).mono ?_); (case side1 => repeat (first | exact (Kd.C_below HR0_0.out HB.out) | (with_reducible refine Kd.C_alloc ?_ _) | (with_reducible refine Kd.C_drewN ?_ _) | (with_reducible refine Kd.C_drew ?_))); (case side2 => exact HC0_0.out); (case side3 => repeat (first | exact (Kd.C_below HR0_1.out HB.out) | (with_reducible refine Kd.C_alloc ?_ _) | (with_reducible refine Kd.C_drewN ?_ _) | (with_reducible refine Kd.C_drew ?_))); (case side4 => exact HC0_1.out); rintro e w104 ⟨v316, v319, rfl, ho0, ho1, hb⟩; refine ⟨_, rfl, ?_⟩; have n0_ := Aside0.mk (Kd.R_lower ho0 (below_size (by repeat (first | (with_reducible first | exact HB.out | apply bwA | apply bwN | apply bwD | refine below_set ?_ GE313.out) | exact HB.out)))); have n1_ := Aside0.mk (Kd.R_lower ho1 (below_size (by repeat (first | (with_reducible first | exact HB.out | apply bwA | apply bwN | apply bwD | refine below_set ?_ GE313.out) | exact HB.out)))); have n2_ := Aside0.mk (blk_below (g := gb313) (o := .cells #[.slice A0_0 l0_0.length c0_0, .slice A0_1 l0_1.length c0_1] 52 (0, 0)) (bvK BK313.out) hb); have n3_ := Aside0.mk (below_step (by repeat (first | (with_reducible first | exact HB.out | apply bwA | apply bwN | apply bwD | refine below_set ?_ GE313.out) | exact HB.out)) hb); clear BK313; clear HB; have HO317 := n0_; have HO320 := n1_; have BK313 := n2_; have HB := n3_; clear n0_ n1_ n2_ n3_; (try clear hb); (try clear hb2); (try clear hk); (try clear hi); (try clear ho0); (try clear ho1)) | ((with_reducible refine gate_callee (f := 16) rfl ?_); refine goesL_ (some 21) rfl rfl Try.func16 (by kernel_rfl) rfl #[.slice A1 l1.length c1] rfl lmB ?_; (with_reducible refine (laws_toIntS.calls k _ _ l1 t321 _ ?side1 ?side2 A11.out).mono ?_); (case side1 => repeat (first | exact (Kd.C_below HR1.out HB.out) | (with_reducible refine Kd.C_alloc ?_ _) | (with_reducible refine Kd.C_drewN ?_ _) | (with_reducible refine Kd.C_drew ?_))); (case side2 => exact HC1.out); rintro e w105 ⟨v322, rfl, ho0, hb⟩; refine ⟨_, rfl, ?_⟩; have n0_ := Aside0.mk (Kd.R_below (rvR HO317.out) hb); have n1_ := Aside0.mk (Kd.R_elder' (rvR HO320.out) (Kd.R_base ho0) hb); have n2_ := Aside0.mk (Kd.R_lower ho0 (below_size (by repeat (first | (with_reducible first | exact HB.out | apply bwA | apply bwN | apply bwD | refine below_set ?_ GE313.out) | exact HB.out)))); have n3_ := Aside0.mk (blk_below (g := gb313) (o := .cells #[.slice A0_0 l0_0.length c0_0, .slice A0_1 l0_1.length c0_1] 52 (0, 0)) (bvK BK313.out) hb); have n4_ := Aside0.mk (below_step (by repeat (first | (with_reducible first | exact HB.out | apply bwA | apply bwN | apply bwD | refine below_set ?_ GE313.out) | exact HB.out)) hb); clear HO317; clear HO320; clear BK313; clear HB; have HO317 := n0_; have HO320 := n1_; have HO323 := n2_; have BK313 := n3_; have HB := n4_; clear n0_ n1_ n2_ n3_ n4_; (try clear hb); (try clear hb2); (try clear hk); (try clear hi); (try clear ho0); obtain ⟨Ao106, co106, eo106⟩ := Kd.R_slice HO317.out; subst eo106; obtain ⟨Ao107, co107, eo107⟩ := Kd.R_slice HO320.out; subst eo107; obtain ⟨Ao108, co108, eo108⟩ := Kd.R_slice HO323.out; subst eo108) | ((with_reducible refine gate_callee (f := 38) rfl ?_); refine goesL_ (some 22) rfl rfl Try.func38 (by kernel_rfl) rfl #[.agg #[.slice Ao106 t315.length co106, .slice Ao107 t318.length co107], .slice Ao108 t321.length co108] rfl lmB ?_; (with_reducible refine (spec_RulesSet.calls k _ _ t315 _ _ t318 _ _ t321 t324 _ ?side1 ?side2 ?side3 ?side4 ?side5 ?side6 A12.out).mono ?_); (case side1 => repeat (first | exact (Kd.R_reads' HO317.out).2.2 | (with_reducible refine Kd.C_alloc ?_ _) | (with_reducible refine Kd.C_drewN ?_ _) | (with_reducible refine Kd.C_drew ?_))); (case side2 => exact (Kd.R_reads' HO317.out).2.1); (case side3 => repeat (first | exact (Kd.R_reads' HO320.out).2.2 | (with_reducible refine Kd.C_alloc ?_ _) | (with_reducible refine Kd.C_drewN ?_ _) | (with_reducible refine Kd.C_drew ?_))); (case side4 => exact (Kd.R_reads' HO320.out).2.1); (case side5 => repeat (first | exact (Kd.R_reads' HO323.out).2.2 | (with_reducible refine Kd.C_alloc ?_ _) | (with_reducible refine Kd.C_drewN ?_ _) | (with_reducible refine Kd.C_drew ?_))); (case side6 => exact (Kd.R_reads' HO323.out).2.1); rintro e w109 ⟨rfl, hb⟩; refine ⟨_, rfl, ?_⟩; have n0_ := Aside0.mk (Kd.R_below (rvR HO317.out) hb); have n1_ := Aside0.mk (Kd.R_below (rvR HO320.out) hb); have n2_ := Aside0.mk (Kd.R_below (rvR HO323.out) hb); have n3_ := Aside0.mk (blk_below (g := gb313) (o := .cells #[.slice A0_0 l0_0.length c0_0, .slice A0_1 l0_1.length c0_1] 52 (0, 0)) (bvK BK313.out) hb); have n4_ := Aside0.mk (below_step (by repeat (first | (with_reducible first | exact HB.out | apply bwA | apply bwN | apply bwD | refine below_set ?_ GE313.out) | exact HB.out)) hb); clear HO317; clear HO320; clear HO323; clear BK313; clear HB; have HO317 := n0_; have HO320 := n1_; have HO323 := n2_; have BK313 := n3_; have HB := n4_; clear n0_ n1_ n2_ n3_ n4_; (try clear hb); (try clear hb2); (try clear hk); (try clear hi); have hcz110_0 : w109.cell? ⟨gb313, 0, none⟩ = some (.slice A0_0 l0_0.length c0_0) := (blk_cell BK313.out 0).trans rfl; have hcz110_1 : w109.cell? ⟨gb313, 1, none⟩ = some (.slice A0_1 l0_1.length c0_1) := (blk_cell BK313.out 1).trans rfl; have hfz110_0 := blk_frozen BK313.out 0; have hfz110_1 := blk_frozen BK313.out 1) | ((with_reducible refine gate_callee (f := 35) rfl ?_); refine goesL_ (some 24) rfl rfl Try.func35 (by kernel_rfl) rfl #[.agg #[.slice A0_0 l0_0.length c0_0, .slice A0_1 l0_1.length c0_1]] rfl lmB ?_; (with_reducible refine (laws_toSystem.calls k _ _ l0_0 _ _ l0_1 t325 t328 _ ?side1 ?side2 ?side3 ?side4 A13.out).mono ?_); (case side1 => repeat (first | exact (Kd.C_below HR0_0.out HB.out) | (with_reducible refine Kd.C_alloc ?_ _) | (with_reducible refine Kd.C_drewN ?_ _) | (with_reducible refine Kd.C_drew ?_))); (case side2 => exact HC0_0.out); (case side3 => repeat (first | exact (Kd.C_below HR0_1.out HB.out) | (with_reducible refine Kd.C_alloc ?_ _) | (with_reducible refine Kd.C_drewN ?_ _) | (with_reducible refine Kd.C_drew ?_))); (case side4 => exact HC0_1.out); rintro e w111 ⟨v326, v329, rfl, ho0, ho1, hb⟩; refine ⟨_, rfl, ?_⟩; have n0_ := Aside0.mk (Kd.R_elder' (rvR HO317.out) (Kd.R_base ho0) hb); have n1_ := Aside0.mk (Kd.R_elder' (rvR HO320.out) (Kd.R_base ho1) hb); have n2_ := Aside0.mk (Kd.R_below (rvR HO323.out) hb); have n3_ := Aside0.mk (Kd.R_lower (Kd.R_new' ho0 (Kd.R_lt (rvR HO317.out))) (below_size (by repeat (first | (with_reducible first | exact HB.out | apply bwA | apply bwN | apply bwD | refine below_set ?_ GE313.out) | exact HB.out)))); have n4_ := Aside0.mk (Kd.R_lower (Kd.R_new' (Kd.R_new' ho1 (Kd.R_lt (rvR HO320.out))) (Kd.R_lt (rvR HO323.out))) (below_size (by repeat (first | (with_reducible first | exact HB.out | apply bwA | apply bwN | apply bwD | refine below_set ?_ GE313.out) | exact HB.out)))); have n5_ := Aside0.mk (blk_below (g := gb313) (o := .cells #[.slice A0_0 l0_0.length c0_0, .slice A0_1 l0_1.length c0_1] 52 (0, 0)) (bvK BK313.out) hb); have n6_ := Aside0.mk (below_step (by repeat (first | (with_reducible first | exact HB.out | apply bwA | apply bwN | apply bwD | refine below_set ?_ GE313.out) | exact HB.out)) hb); clear HO317; clear HO320; clear HO323; clear BK313; clear HB; have HO317 := n0_; have HO320 := n1_; have HO323 := n2_; have HO327 := n3_; have HO330 := n4_; have BK313 := n5_; have HB := n6_; clear n0_ n1_ n2_ n3_ n4_ n5_ n6_; (try clear hb); (try clear hb2); (try clear hk); (try clear hi); (try clear ho0); (try clear ho1)) | ((with_reducible refine gate_dst (N := 7) rfl ?_); refine box_event ?hg (N := 7) ?hd (cs := #[.slice none 0 0, .slice none 0 0]) (t := 58) ?hr ?_; (case hd => rfl); (case hg => rfl); (case hr => first | (go_simp; done) | (go_simp; rfl)); intro gb331 hg w112 hbox hb; have n0_ := Aside0.mk (Kd.R_below (rvR HO317.out) hb); have n1_ := Aside0.mk (Kd.R_below (rvR HO320.out) hb); have n2_ := Aside0.mk (Kd.R_below (rvR HO323.out) hb); have n3_ := Aside0.mk (Kd.R_below (rvR HO327.out) hb); have n4_ := Aside0.mk (Kd.R_below (rvR HO330.out) hb); have n5_ := Aside0.mk (blk_below (g := gb313) (o := .cells #[.slice A0_0 l0_0.length c0_0, .slice A0_1 l0_1.length c0_1] 52 (0, 0)) (bvK BK313.out) hb); have n6_ := Aside0.mk (below_step (by repeat (first | (with_reducible first | exact HB.out | apply bwA | apply bwN | apply bwD | refine below_set ?_ GE313.out) | exact HB.out)) hb); have n7_ := Aside0.mk (hbox); have n8_ := Aside0.mk ((by rw [hg]; exact (below_size (by repeat (first | (with_reducible first | exact HB.out | apply bwA | apply bwN | apply bwD | refine below_set ?_ GE313.out) | exact HB.out))) : w.heap.size ≤ gb331)); have n9_ := Aside0.mk ((by rw [hg]; exact (below_size (by repeat (first | (with_reducible first | exact HB.out | apply bwA | apply bwN | apply bwD | refine below_set ?_ GE313.out) | exact HB.out))) : w.heap.size ≤ gb331)); have n10_ := Aside0.mk ((by rw [hg]; exact Nat.ne_of_lt (blk_lt (g := gb313) (o := .cells #[.slice A0_0 l0_0.length c0_0, .slice A0_1 l0_1.length c0_1] 52 (0, 0)) (bvK BK313.out)) : gb313 ≠ gb331)); have n11_ := Aside0.mk ((by rw [hg]; exact Nat.ne_of_gt (blk_lt (g := gb313) (o := .cells #[.slice A0_0 l0_0.length c0_0, .slice A0_1 l0_1.length c0_1] 52 (0, 0)) (bvK BK313.out)) : gb331 ≠ gb313)); clear HO317; clear HO320; clear HO323; clear HO327; clear HO330; clear BK313; clear HB; have HO317 := n0_; have HO320 := n1_; have HO323 := n2_; have HO327 := n3_; have HO330 := n4_; have BK313 := n5_; have HB := n6_; have BK331 := n7_; have GW331 := n8_; have GE331 := n9_; have NB313_331 := n10_; have NB331_313 := n11_; clear n0_ n1_ n2_ n3_ n4_ n5_ n6_ n7_ n8_ n9_ n10_ n11_; clear hb hbox hg; obtain ⟨Ao113, co113, eo113⟩ := Kd.R_slice HO327.out; subst eo113; have hnb114 := NB331_313.out; have hnc114 := NB313_331.out; have hcz115_0 : w112.cell? ⟨gb331, 0, none⟩ = some (.slice none 0 0) := (blk_cell BK331.out 0).trans rfl; have hcz115_1 : w112.cell? ⟨gb331, 1, none⟩ = some (.slice none 0 0) := (blk_cell BK331.out 1).trans rfl; have hfz115_0 := blk_frozen BK331.out 0; have hfz115_1 := blk_frozen BK331.out 1; obtain ⟨Ao116, co116, eo116⟩ := Kd.R_slice HO330.out; subst eo116) | ((with_reducible refine gate_callee (f := 16) rfl ?_); refine goesL_ (some 26) rfl rfl Try.func16 (by kernel_rfl) rfl #[.slice A1 l1.length c1] rfl lmB ?_; (with_reducible refine (laws_toIntS.calls k _ _ l1 t332 _ ?side1 ?side2 A14.out).mono ?_); (case side1 => exact Kd.C_below HR1.out (by repeat (first | (with_reducible first | exact HB.out | apply bwA | apply bwN | apply bwD | refine below_set ?_ GE313.out | refine below_set ?_ GE331.out) | exact HB.out))); (case side2 => exact HC1.out); rintro e w117 ⟨v333, rfl, ho0, hb⟩; refine ⟨_, rfl, ?_⟩; have n0_ := Aside0.mk (Kd.R_below (by (with_reducible repeat (first | apply Kd.R_alloc | apply Kd.R_drewN | apply Kd.R_drew)); exact (Kd.R_mono (Kd.R_far (p := ⟨gb331, 1, none⟩) (Kd.R_far (p := ⟨gb331, 0, none⟩) (Kd.R_types HO317.out BK331.out (by decide)) (fun _ hk => hk.2) (.slice Ao113 t325.length co113)) (fun _ hk => hk.2) (.slice Ao116 t328.length co116)) (fun _ h_ => h_.1))) hb); have n1_ := Aside0.mk (Kd.R_elder' (by (with_reducible repeat (first | apply Kd.R_alloc | apply Kd.R_drewN | apply Kd.R_drew)); exact (Kd.R_mono (Kd.R_far (p := ⟨gb331, 1, none⟩) (Kd.R_far (p := ⟨gb331, 0, none⟩) (Kd.R_types HO320.out BK331.out (by decide)) (fun _ hk => hk.2) (.slice Ao113 t325.length co113)) (fun _ hk => hk.2) (.slice Ao116 t328.length co116)) (fun _ h_ => h_.1))) (Kd.R_base ho0) hb); have n2_ := Aside0.mk (Kd.R_elder' (by (with_reducible repeat (first | apply Kd.R_alloc | apply Kd.R_drewN | apply Kd.R_drew)); exact (Kd.R_mono (Kd.R_far (p := ⟨gb331, 1, none⟩) (Kd.R_far (p := ⟨gb331, 0, none⟩) (Kd.R_types HO323.out BK331.out (by decide)) (fun _ hk => hk.2) (.slice Ao113 t325.length co113)) (fun _ hk => hk.2) (.slice Ao116 t328.length co116)) (fun _ h_ => h_.1))) (Kd.R_base ho0) hb); have n3_ := Aside0.mk (Kd.R_below (by (with_reducible repeat (first | apply Kd.R_alloc | apply Kd.R_drewN | apply Kd.R_drew)); exact (Kd.R_mono (Kd.R_far (p := ⟨gb331, 1, none⟩) (Kd.R_far (p := ⟨gb331, 0, none⟩) (Kd.R_types HO327.out BK331.out (by decide)) (fun _ hk => hk.2) (.slice Ao113 t325.length co113)) (fun _ hk => hk.2) (.slice Ao116 t328.length co116)) (fun _ h_ => h_.1))) hb); have n4_ := Aside0.mk (Kd.R_elder' (by (with_reducible repeat (first | apply Kd.R_alloc | apply Kd.R_drewN | apply Kd.R_drew)); exact (Kd.R_mono (Kd.R_far (p := ⟨gb331, 1, none⟩) (Kd.R_far (p := ⟨gb331, 0, none⟩) (Kd.R_types HO330.out BK331.out (by decide)) (fun _ hk => hk.2) (.slice Ao113 t325.length co113)) (fun _ hk => hk.2) (.slice Ao116 t328.length co116)) (fun _ h_ => h_.1))) (Kd.R_base ho0) hb); have n5_ := Aside0.mk (Kd.R_lower (Kd.R_new' ho0 (Kd.R_lt (by (with_reducible repeat (first | apply Kd.R_alloc | apply Kd.R_drewN | apply Kd.R_drew)); exact (Kd.R_mono (Kd.R_far (p := ⟨gb331, 1, none⟩) (Kd.R_far (p := ⟨gb331, 0, none⟩) (Kd.R_types HO323.out BK331.out (by decide)) (fun _ hk => hk.2) (.slice Ao113 t325.length co113)) (fun _ hk => hk.2) (.slice Ao116 t328.length co116)) (fun _ h_ => h_.1))))) (below_size (by repeat (first | (with_reducible first | exact HB.out | apply bwA | apply bwN | apply bwD | refine below_set ?_ GE313.out | refine below_set ?_ GE331.out) | exact HB.out)))); have n6_ := Aside0.mk (blk_below (g := gb313) (o := .cells #[.slice A0_0 l0_0.length c0_0, .slice A0_1 l0_1.length c0_1] 52 (0, 0)) (by (with_reducible repeat (first | refine blk_drewN ?_ _ | refine blk_drew ?_ | refine blk_alloc ?_ _)); refine blk_far ?_ NB313_331.out _; (with_reducible repeat (first | refine blk_drewN ?_ _ | refine blk_drew ?_ | refine blk_alloc ?_ _)); refine blk_far ?_ NB313_331.out _; (with_reducible repeat (first | refine blk_drewN ?_ _ | refine blk_drew ?_ | refine blk_alloc ?_ _)); exact BK313.out) hb); have n7_ := Aside0.mk (blk_below (g := gb331) (o := .cells #[.slice Ao113 t325.length co113, .slice Ao116 t328.length co116] 58 (0, 0)) (by (with_reducible repeat (first | refine blk_drewN ?_ _ | refine blk_drew ?_ | refine blk_alloc ?_ _)); refine blk_put (cs := #[.slice Ao113 t325.length co113, .slice none 0 0]) ?_ 1 _ rfl; (with_reducible repeat (first | refine blk_drewN ?_ _ | refine blk_drew ?_ | refine blk_alloc ?_ _)); refine blk_put (cs := #[.slice none 0 0, .slice none 0 0]) ?_ 0 _ rfl; (with_reducible repeat (first | refine blk_drewN ?_ _ | refine blk_drew ?_ | refine blk_alloc ?_ _)); exact BK331.out) hb); have n8_ := Aside0.mk (below_step (by repeat (first | (with_reducible first | exact HB.out | apply bwA | apply bwN | apply bwD | refine below_set ?_ GE313.out | refine below_set ?_ GE331.out) | exact HB.out)) hb); clear HO317; clear HO320; clear HO323; clear HO327; clear HO330; clear BK313; clear BK331; clear HB; have HO317 := n0_; have HO320 := n1_; have HO323 := n2_; have HO327 := n3_; have HO330 := n4_; have HO334 := n5_; have BK313 := n6_; have BK331 := n7_; have HB := n8_; clear n0_ n1_ n2_ n3_ n4_ n5_ n6_ n7_ n8_; (try clear hb); (try clear hb2); (try clear hk); (try clear hi); (try clear ho0); have hcz118_0 : w117.cell? ⟨gb331, 0, none⟩ = some (.slice Ao113 t325.length co113) := (blk_cell BK331.out 0).trans rfl; have hcz118_1 : w117.cell? ⟨gb331, 1, none⟩ = some (.slice Ao116 t328.length co116) := (blk_cell BK331.out 1).trans rfl; have hfz118_0 := blk_frozen BK331.out 0; have hfz118_1 := blk_frozen BK331.out 1; obtain ⟨Ao119, co119, eo119⟩ := Kd.R_slice HO334.out; subst eo119) | ((with_reducible refine gate_callee (f := 39) rfl ?_); refine goesL_ (some 29) rfl rfl Try.func39 (by kernel_rfl) rfl #[.agg #[.slice Ao113 t325.length co113, .slice Ao116 t328.length co116], .slice Ao119 t332.length co119] rfl lmB ?_; (with_reducible refine (impl_RulesSet.calls k _ _ t325 _ _ t328 _ _ t332 t335 _ ?side1 ?side2 ?side3 ?side4 ?side5 ?side6 A15.out).mono ?_); (case side1 => repeat (first | exact (Kd.R_reads' HO327.out).2.2 | (with_reducible refine Kd.C_alloc ?_ _) | (with_reducible refine Kd.C_drewN ?_ _) | (with_reducible refine Kd.C_drew ?_))); (case side2 => exact (Kd.R_reads' HO327.out).2.1); (case side3 => repeat (first | exact (Kd.R_reads' HO330.out).2.2 | (with_reducible refine Kd.C_alloc ?_ _) | (with_reducible refine Kd.C_drewN ?_ _) | (with_reducible refine Kd.C_drew ?_))); (case side4 => exact (Kd.R_reads' HO330.out).2.1); (case side5 => repeat (first | exact (Kd.R_reads' HO334.out).2.2 | (with_reducible refine Kd.C_alloc ?_ _) | (with_reducible refine Kd.C_drewN ?_ _) | (with_reducible refine Kd.C_drew ?_))); (case side6 => exact (Kd.R_reads' HO334.out).2.1); rintro e w120 ⟨rfl, hb⟩; refine ⟨_, rfl, ?_⟩; have n0_ := Aside0.mk (Kd.R_below (rvR HO317.out) hb); have n1_ := Aside0.mk (Kd.R_below (rvR HO320.out) hb); have n2_ := Aside0.mk (Kd.R_below (rvR HO323.out) hb); have n3_ := Aside0.mk (Kd.R_below (rvR HO327.out) hb); have n4_ := Aside0.mk (Kd.R_below (rvR HO330.out) hb); have n5_ := Aside0.mk (Kd.R_below (rvR HO334.out) hb); have n6_ := Aside0.mk (blk_below (g := gb313) (o := .cells #[.slice A0_0 l0_0.length c0_0, .slice A0_1 l0_1.length c0_1] 52 (0, 0)) (bvK BK313.out) hb); have n7_ := Aside0.mk (blk_below (g := gb331) (o := .cells #[.slice Ao113 t325.length co113, .slice Ao116 t328.length co116] 58 (0, 0)) (bvK BK331.out) hb); have n8_ := Aside0.mk (below_step (by repeat (first | (with_reducible first | exact HB.out | apply bwA | apply bwN | apply bwD | refine below_set ?_ GE313.out | refine below_set ?_ GE331.out) | exact HB.out)) hb); clear HO317; clear HO320; clear HO323; clear HO327; clear HO330; clear HO334; clear BK313; clear BK331; clear HB; have HO317 := n0_; have HO320 := n1_; have HO323 := n2_; have HO327 := n3_; have HO330 := n4_; have HO334 := n5_; have BK313 := n6_; have BK331 := n7_; have HB := n8_; clear n0_ n1_ n2_ n3_ n4_ n5_ n6_ n7_ n8_; (try clear hb); (try clear hb2); (try clear hk); (try clear hi)))
     have n0_ := Aside0.mk (Kd.R_drew HO317.out)
     have n1_ := Aside0.mk (Kd.R_drew HO320.out)
     have n2_ := Aside0.mk (Kd.R_drew HO323.out)
     have n3_ := Aside0.mk (Kd.R_drew HO327.out)
     have n4_ := Aside0.mk (Kd.R_drew HO330.out)
     have n5_ := Aside0.mk (Kd.R_drew HO334.out)
     have n6_ := Aside0.mk (blk_drew BK313.out)
     have n7_ := Aside0.mk (blk_drew BK331.out)
     have n8_ := Aside0.mk (below_drew1 HB.out)
     clear HO317
     clear HO320
     clear HO323
     clear HO327
     clear HO330
     clear HO334
     clear BK313
     clear BK331
     clear HB
     have HO317 := n0_
     have HO320 := n1_
     have HO323 := n2_
     have HO327 := n3_
     have HO330 := n4_
     have HO334 := n5_
     have BK313 := n6_
     have BK331 := n7_
     have HB := n8_
     clear n0_ n1_ n2_ n3_ n4_ n5_ n6_ n7_ n8_
     refine start_ (n := 5) (S := fun w' => w'.cell? ⟨gb331, 0, none⟩ = some (.slice Ao113 t325.length co113) ∧ w'.cell? ⟨gb331, 1, none⟩ = some (.slice Ao116 t328.length co116) ∧ w'.cell? ⟨gb313, 0, none⟩ = some (.slice A0_0 l0_0.length c0_0) ∧ w'.cell? ⟨gb313, 1, none⟩ = some (.slice A0_1 l0_1.length c0_1)) (ds := []) #[false, false, false, false, false] (by kernel_rfl) rfl rfl ⟨(blk_cell BK331.out 0).trans rfl, (blk_cell BK331.out 1).trans rfl, (blk_cell BK313.out 0).trans rfl, (blk_cell BK313.out 1).trans rfl⟩ (fun hHeld => ?_)
     generalize w120.drew = w121 at HO317 HO320 HO323 HO327 HO330 HO334 BK313 BK331 HB hHeld ⊢
     refine take_ (i := 0) (N := some 33) (v := ?_) (a' := ?_) #[true, false, false, false, false] rfl rfl (by kernel_rfl) (fun _ _ _ h => h) (Or.inl ⟨by rfl, ?_⟩) hHeld ?_ ?_
     rotate_left
     ·rintro w' ⟨s0, s1, s2, s3⟩
      go_simp
      with_reducible rfl
     rotate_left
     ·simp only [Act.put, List.setIfInBounds_toArray, List.set_cons_zero, List.set_cons_succ, i64_w, i32_w]
      rfl
     refine take_ (i := 1) (N := some 34) (v := ?_) (a' := ?_) #[true, true, false, false, false] rfl rfl (by kernel_rfl) (fun _ _ _ h => h) (Or.inl ⟨by rfl, ?_⟩) hHeld ?_ ?_
     rotate_left
     ·rintro w' ⟨s0, s1, s2, s3⟩
      go_simp
      with_reducible rfl
     rotate_left
     ·simp only [Act.put, List.setIfInBounds_toArray, List.set_cons_zero, List.set_cons_succ, i64_w, i32_w]
      rfl
     refine one_ (i := 2) (N := some 35) #[true, true, true, false, false] rfl rfl (by kernel_rfl) (by decide) (fun K hK => ?_)
     refine goes_ Try.func35 (by kernel_rfl) rfl #[.agg #[.slice A0_0 l0_0.length c0_0, .slice A0_1 l0_1.length c0_1]] (by rfl) rfl rfl lmB ?_
     with_reducible refine (laws_toSystem.calls k _ _ l0_0 _ _ l0_1 t336 t339 _ ?side1 ?side2 ?side3 ?side4 A38.out).mono ?_
     (case side1 => repeat (first | exact (Kd.C_below HR0_0.out HB.out) | (with_reducible refine Kd.C_alloc ?_ _) | (with_reducible refine Kd.C_drewN ?_ _) | (with_reducible refine Kd.C_drew ?_)))
     (case side2 => exact HC0_0.out)
     (case side3 => repeat (first | exact (Kd.C_below HR0_1.out HB.out) | (with_reducible refine Kd.C_alloc ?_ _) | (with_reducible refine Kd.C_drewN ?_ _) | (with_reducible refine Kd.C_drew ?_)))
     (case side4 => exact HC0_1.out)
     rintro e w122 ⟨v337, v340, rfl, ho0, ho1, hb⟩
     refine ⟨_, rfl, ?_⟩
     have n0_ := Aside0.mk (Kd.R_elder' (rvR HO317.out) (Kd.R_base ho0) hb)
     have n1_ := Aside0.mk (Kd.R_elder' (rvR HO320.out) (Kd.R_base ho1) hb)
     have n2_ := Aside0.mk (Kd.R_below (rvR HO323.out) hb)
     have n3_ := Aside0.mk (Kd.R_elder' (rvR HO327.out) (Kd.R_base ho0) hb)
     have n4_ := Aside0.mk (Kd.R_elder' (rvR HO330.out) (Kd.R_base ho1) hb)
     have n5_ := Aside0.mk (Kd.R_below (rvR HO334.out) hb)
     have n6_ := Aside0.mk (Kd.R_lower (Kd.R_new' (Kd.R_new' ho0 (Kd.R_lt (rvR HO317.out))) (Kd.R_lt (rvR HO327.out))) (below_size (by repeat (first | (with_reducible first | exact HB.out | apply bwA | apply bwN | apply bwD | refine below_set ?_ GE313.out | refine below_set ?_ GE331.out) | exact HB.out))))
     have n7_ := Aside0.mk (Kd.R_lower (Kd.R_new' (Kd.R_new' (Kd.R_new' (Kd.R_new' ho1 (Kd.R_lt (rvR HO320.out))) (Kd.R_lt (rvR HO323.out))) (Kd.R_lt (rvR HO330.out))) (Kd.R_lt (rvR HO334.out))) (below_size (by repeat (first | (with_reducible first | exact HB.out | apply bwA | apply bwN | apply bwD | refine below_set ?_ GE313.out | refine below_set ?_ GE331.out) | exact HB.out))))
     have n8_ := Aside0.mk (blk_below (g := gb313) (o := .cells #[.slice A0_0 l0_0.length c0_0, .slice A0_1 l0_1.length c0_1] 52 (0, 0)) (bvK BK313.out) hb)
     have n9_ := Aside0.mk (blk_below (g := gb331) (o := .cells #[.slice Ao113 t325.length co113, .slice Ao116 t328.length co116] 58 (0, 0)) (bvK BK331.out) hb)
     have n10_ := Aside0.mk (below_step (by repeat (first | (with_reducible first | exact HB.out | apply bwA | apply bwN | apply bwD | refine below_set ?_ GE313.out | refine below_set ?_ GE331.out) | exact HB.out)) hb)
     clear HO317
     clear HO320
     clear HO323
     clear HO327
     clear HO330
     clear HO334
     clear BK313
     clear BK331
     clear HB
     have HO317 := n0_
     have HO320 := n1_
     have HO323 := n2_
     have HO327 := n3_
     have HO330 := n4_
     have HO334 := n5_
     have HO338 := n6_
     have HO341 := n7_
     have BK313 := n8_
     have BK331 := n9_
     have HB := n10_
     clear n0_ n1_ n2_ n3_ n4_ n5_ n6_ n7_ n8_ n9_ n10_
     (try clear hb)
     (try clear hb2)
     (try clear hk)
     (try clear hi)
     (try clear ho0)
     (try clear ho1)
     obtain ⟨Ao123, co123, eo123⟩ := Kd.R_slice HO338.out
     (first | subst eo123 | (injection eo123 with f1_ f2_ f3_; have f4_ := f1_.symm; have f5_ := f3_.symm; clear f1_ f2_ f3_; subst f4_; subst f5_))
     obtain ⟨Ao124, co124, eo124⟩ := Kd.R_slice HO341.out
     (first | subst eo124 | (injection eo124 with f1_ f2_ f3_; have f4_ := f1_.symm; have f5_ := f3_.symm; clear f1_ f2_ f3_; subst f4_; subst f5_))
     refine hK.out _ _ ⟨(blk_cell BK331.out 0).trans rfl, (blk_cell BK331.out 1).trans rfl, (blk_cell BK313.out 0).trans rfl, (blk_cell BK313.out 1).trans rfl⟩ (fun hHeld => ?_)
     clear hK K
     refine norm_ (a' := ?_) ?_ ?_
     rotate_left
     ·show Act.put _ (some 35) _ = _
      simp only [Act.put, List.setIfInBounds_toArray, List.set_cons_zero, List.set_cons_succ, i64_w, i32_w]
      rfl
     refine one_ (i := 3) (N := some 36) #[true, true, true, true, false] rfl rfl (by kernel_rfl) (by decide) (fun K hK => ?_)
     refine goes_ Try.func37 (by kernel_rfl) rfl #[.agg #[.slice Ao113 t325.length co113, .slice Ao116 t328.length co116], .agg #[.slice Ao123 t336.length co123, .slice Ao124 t339.length co124]] (by rfl) rfl rfl lmB ?_
     with_reducible refine (laws_eqSystem.calls k _ _ t325 _ _ t328 _ _ t336 _ _ t339 false _ ?side1 ?side2 ?side3 ?side4 ?side5 ?side6 ?side7 ?side8 A39.out).mono ?_
     (case side1 => repeat (first | exact (Kd.R_reads' HO327.out).2.2 | (with_reducible refine Kd.C_alloc ?_ _) | (with_reducible refine Kd.C_drewN ?_ _) | (with_reducible refine Kd.C_drew ?_)))
     (case side2 => exact (Kd.R_reads' HO327.out).2.1)
     (case side3 => repeat (first | exact (Kd.R_reads' HO330.out).2.2 | (with_reducible refine Kd.C_alloc ?_ _) | (with_reducible refine Kd.C_drewN ?_ _) | (with_reducible refine Kd.C_drew ?_)))
     (case side4 => exact (Kd.R_reads' HO330.out).2.1)
     (case side5 => repeat (first | exact (Kd.R_reads' HO338.out).2.2 | (with_reducible refine Kd.C_alloc ?_ _) | (with_reducible refine Kd.C_drewN ?_ _) | (with_reducible refine Kd.C_drew ?_)))
     (case side6 => exact (Kd.R_reads' HO338.out).2.1)
     (case side7 => repeat (first | exact (Kd.R_reads' HO341.out).2.2 | (with_reducible refine Kd.C_alloc ?_ _) | (with_reducible refine Kd.C_drewN ?_ _) | (with_reducible refine Kd.C_drew ?_)))
     (case side8 => exact (Kd.R_reads' HO341.out).2.1)
     rintro e w125 ⟨rfl, hb⟩
     refine ⟨_, rfl, ?_⟩
     have n0_ := Aside0.mk (Kd.R_below (rvR HO317.out) hb)
     have n1_ := Aside0.mk (Kd.R_below (rvR HO320.out) hb)
     have n2_ := Aside0.mk (Kd.R_below (rvR HO323.out) hb)
     have n3_ := Aside0.mk (Kd.R_below (rvR HO327.out) hb)
     have n4_ := Aside0.mk (Kd.R_below (rvR HO330.out) hb)
     have n5_ := Aside0.mk (Kd.R_below (rvR HO334.out) hb)
     have n6_ := Aside0.mk (Kd.R_below (rvR HO338.out) hb)
     have n7_ := Aside0.mk (Kd.R_below (rvR HO341.out) hb)
     have n8_ := Aside0.mk (blk_below (g := gb313) (o := .cells #[.slice A0_0 l0_0.length c0_0, .slice A0_1 l0_1.length c0_1] 52 (0, 0)) (bvK BK313.out) hb)
     have n9_ := Aside0.mk (blk_below (g := gb331) (o := .cells #[.slice Ao113 t325.length co113, .slice Ao116 t328.length co116] 58 (0, 0)) (bvK BK331.out) hb)
     have n10_ := Aside0.mk (below_step (by repeat (first | (with_reducible first | exact HB.out | apply bwA | apply bwN | apply bwD | refine below_set ?_ GE313.out | refine below_set ?_ GE331.out) | exact HB.out)) hb)
     clear HO317
     clear HO320
     clear HO323
     clear HO327
     clear HO330
     clear HO334
     clear HO338
     clear HO341
     clear BK313
     clear BK331
     clear HB
     have HO317 := n0_
     have HO320 := n1_
     have HO323 := n2_
     have HO327 := n3_
     have HO330 := n4_
     have HO334 := n5_
     have HO338 := n6_
     have HO341 := n7_
     have BK313 := n8_
     have BK331 := n9_
     have HB := n10_
     clear n0_ n1_ n2_ n3_ n4_ n5_ n6_ n7_ n8_ n9_ n10_
     (try clear hb)
     (try clear hb2)
     (try clear hk)
     (try clear hi)
     refine hK.out _ _ ⟨(blk_cell BK331.out 0).trans rfl, (blk_cell BK331.out 1).trans rfl, (blk_cell BK313.out 0).trans rfl, (blk_cell BK313.out 1).trans rfl⟩ (fun hHeld => ?_)
     clear hK K
     refine norm_ (a' := ?_) ?_ ?_
     rotate_left
     ·show Act.put _ (some 36) _ = _
      simp only [Act.put, List.setIfInBounds_toArray, List.set_cons_zero, List.set_cons_succ, i64_w, i32_w]
      rfl
     refine pure_ (i := 4) (N := some 37) (v := ?_) (a' := ?_) #[true, true, true, true, true] rfl rfl (by kernel_rfl) (fun _ _ _ h => h) (Or.inl ⟨by rfl, ?_⟩) ?_ ?_
     rotate_left
     ·intro w'
      go_simp
      with_reducible rfl
     rotate_left
     ·simp only [Act.put, List.setIfInBounds_toArray, List.set_cons_zero, List.set_cons_succ, i64_w, i32_w]
      rfl
     refine done_ (by kernel_rfl) ?_
     try go_wp2
     go_ret
     exact ⟨ers, by repeat (first | (with_reducible first | exact HB.out | apply bwA | apply bwN | apply bwD | refine below_set ?_ GE313.out | refine below_set ?_ GE331.out) | exact HB.out)⟩
def GoodIi64 (x : Int) : Prop := (Lit.int .i64 x).wf = true
def GoodS133 (x : S133) : Prop := GoodIi64 x.f0 ∧ GoodIi64 x.f1 ∧ GoodIi64 x.f2
def GoodL12 (x : List (S133)) : Prop := (x.length ≤ maxLen ∧ ∀ x_ ∈ x, GoodS133 x_)
def GoodS75 (x : S75) : Prop := GoodIi64 x.f0 ∧ GoodIi64 x.f1 ∧ GoodIi64 x.f2 ∧ GoodIi64 x.f3
def GoodL3 (x : List (S75)) : Prop := (x.length ≤ maxLen ∧ ∀ x_ ∈ x, GoodS75 x_)
def GoodL4 (x : List Int) : Prop := (x.length ≤ maxLen ∧ ∀ x_ ∈ x, GoodIi64 x_)
def GoodL5 (x : List (List (S75))) : Prop := (x.length ≤ maxLen ∧ ∀ x_ ∈ x, GoodL3 x_)
def GoodS131 (x : S131) : Prop := GoodL3 x.f0 ∧ GoodL4 x.f1 ∧ GoodL5 x.f2
def GoodL13 (x : List (S131)) : Prop := (x.length ≤ maxLen ∧ ∀ x_ ∈ x, GoodS131 x_)
/-- THE ONE PURE STATEMENT of laws_FnExactRulesSet. -/
def laws_FnExactRulesSet.Pure : Prop := ∀ (l0_0 : List (S133)) (l0_1 : List (S131)) (l1 : List Int), GoodL12 l0_0 → GoodL13 l0_1 → GoodL4 l1 → ∃ k, laws_FnExactRulesSet.f k l0_0 l0_1 l1 = some true
theorem laws_FnExactRulesSet.walk (P : laws_FnExactRulesSet.Pure) (A0_0 : Option Addr) (c0_0 : Nat) (l0_0 : List (S133)) (A0_1 : Option Addr) (c0_1 : Nat) (l0_1 : List (S131)) (A1 : Option Addr) (c1 : Nat) (l1 : List Int) (w : World) (hr0_0 : Kd.C k133 w A0_0 l0_0.length l0_0) (hc0_0 : l0_0.length ≤ c0_0) (hr0_1 : Kd.C k131 w A0_1 l0_1.length l0_1) (hc0_1 : l0_1.length ≤ c0_1) (hr1 : Kd.C (Kd.int .i64) w A1 l1.length l1) (hc1 : l1.length ≤ c1) (g0_0 : GoodL12 l0_0) (g0_1 : GoodL13 l0_1) (g1 : GoodL4 l1) :
  Calls Try.prog 9 #[.agg #[.slice A0_0 l0_0.length c0_0, .slice A0_1 l0_1.length c0_1], .slice A1 l1.length c1] w fun e w' => e = .returned (.bool true) ∧ Below w.heap.size w w' := by
 obtain ⟨k, h⟩ := P l0_0 l0_1 l1 g0_0 g0_1 g1
 refine (laws_FnExactRulesSet.calls k _ _ l0_0 _ _ l0_1 _ _ l1 true w hr0_0 hc0_0 hr0_1 hc0_1 hr1 hc1 h).mono ?_
 rintro e w' ⟨rfl, hd⟩
 exact ⟨rfl, hd⟩

end Go.Proofs.Ytpfkgmcbogcmoaa.QFnExactRulesSet
