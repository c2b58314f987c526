-- Written by a program of this session (mk.py). Lean checks it.
import Derived.Test.YtpfkgmcbogcmoaaQFnJoinedx0
import Derived.Test.YtpfkgmcbogcmoaaQFnJoinedx2
import Derived.Test.YtpfkgmcbogcmoaaQFnJoinedx3
import Derived.Test.YtpfkgmcbogcmoaaQFnJoinedx5
import Derived.Test.YtpfkgmcbogcmoaaQFnJoinedx8
import Derived.Test.YtpfkgmcbogcmoaaQFnJoinedx9
namespace Go.Proofs.Ytpfkgmcbogcmoaa.QFnJoined
open Go.RowKit Go.Proofs.YtpfkgmcbogcmoaaW.PrintWords Go.Proofs.YtpfkgmcbogcmoaaW.PrintLast Go.Proofs.YtpfkgmcbogcmoaaW.PrintMore
attribute [local go_sem] max2_int min2_int max_two min_two max_three min_three max_four min_four   -- for this text's walks alone
set_option linter.unusedVariables false
set_option linter.unusedSimpArgs false

/-! ### laws_FnJoined: function 5 -/
mutual
def laws_FnJoined.j0 : Nat → Int → List (S73) → List (S73) → Int → List (S73) → List (S73) → Bool → Option (Bool)
 | 0, _, _, _, _, _, _, _ => none
 | k + 1, x3, x4, x5, x6, x7, x8, x45 => if x45 = true then (if (x7.length : Int) = (x8.length : Int) then ((impl_TermsValid.f k x7 x6).bind fun t434 => (if t434 = true then (some false) else ((impl_TermsValid.f k x4 x6).bind fun t435 => ((spec_TermsValid.f k x4 x6).bind fun t436 => (if (t435 == t436) = true then (if x3 < 2 then (some true) else (if x3 > 9 then (some true) else (some (decide ((wrap64 ((x4.length : Int) + (x5.length : Int))) > 0))))) else (some false)))))) else (some false)) else ((some (([3, (-1), 2, 0, 1] : List Int) : List Int)).bind fun y437 => (if 0 ≤ x6 then (if x6 ≤ (y437.length : Int) then ((some (y437.take (x6 : Int).toNat : List Int)).bind fun y440 => ((impl_Eval.f k x4 y440).bind fun bt444 => ((impl_Eval.f k x5 y440).bind fun bt446 => ((impl_Eval.f k x7 y440).bind fun bt448 => (if bt444.2 = true then (if bt446.2 = true then (laws_FnJoined.j1 k x3 bt444.1 bt446.1 bt448.1 (!bt448.2)) else (laws_FnJoined.j1 k x3 bt444.1 bt446.1 bt448.1 true)) else (laws_FnJoined.j1 k x3 bt444.1 bt446.1 bt448.1 true)))))) else (none)) else (none)))
def laws_FnJoined.j1 : Nat → Int → Int → Int → Int → Bool → Option (Bool)
 | 0, _, _, _, _, _ => none
 | k + 1, x3, x10, x12, x14, x112 => if x112 = true then (some false) else (if x3 = 2 then (some (x14 == (mx (mn (wrap64 (x10 + x12)) 9999) (-9999)))) else (if x3 = 3 then (some (x14 == (mx (mn (wrap64 (x10 - x12)) 9999) (-9999)))) else (if x3 = 4 then (some (x14 == (mx (mn (wrap64 (x10 * x12)) 9999) (-9999)))) else (if x3 = 5 then (some ((x14 == 1) == (decide (x10 < x12)))) else (if x3 = 6 then (some ((x14 == 1) == (x10 == x12))) else (if x3 = 7 then (some (x14 == (wrap64 (1 - x10)))) else (if x3 = 8 then (some (x14 == (wrap64 (x10 * x12)))) else (some (x14 == (mx x10 x12))))))))))
end
def laws_FnJoined.f (k : Nat) (l0 : List Int) : Option (Bool) := if (l0.length : Int) > 1048576 then (some true) else ((spec_DrawJoined.f k l0).bind fun bt420 => ((impl_Joined.f k bt420.1 bt420.2.1 bt420.2.2.1 bt420.2.2.2).bind fun t428 => ((spec_Joined.f k bt420.1 bt420.2.1 bt420.2.2.1 bt420.2.2.2).bind fun t431 => (if (t428.length : Int) = (t431.length : Int) then (laws_FnJoined.j0 k bt420.1 bt420.2.1 bt420.2.2.1 bt420.2.2.2 t428 t431 ((t428.length : Int) == 0)) else (laws_FnJoined.j0 k bt420.1 bt420.2.1 bt420.2.2.1 bt420.2.2.2 t428 t431 true)))))
theorem laws_FnJoined.mono_l : ∀ k, (∀ y0 y1 y2 y3 y4 y5 y6, LeO (laws_FnJoined.j0 k y0 y1 y2 y3 y4 y5 y6) (laws_FnJoined.j0 (k + 1) y0 y1 y2 y3 y4 y5 y6)) ∧ (∀ y0 y1 y2 y3 y4, LeO (laws_FnJoined.j1 k y0 y1 y2 y3 y4) (laws_FnJoined.j1 (k + 1) y0 y1 y2 y3 y4))
 | 0 => ⟨fun _ _ _ _ _ _ _ r h => by simp [laws_FnJoined.j0] at h, fun _ _ _ _ _ r h => by simp [laws_FnJoined.j1] at h⟩
 | k + 1 => by
  obtain ⟨ih0, ih1⟩ := laws_FnJoined.mono_l k
  refine ⟨?_, ?_⟩
  ·intro y0 y1 y2 y3 y4 y5 y6
   unfold laws_FnJoined.j0
   repeat' first
   | (with_reducible exact ih0 _ _ _ _ _ _ _)
   | (with_reducible exact ih1 _ _ _ _ _)
   | (with_reducible exact impl_Eval.mono _ _ _)
   | (with_reducible exact impl_Joined.mono _ _ _ _ _)
   | (with_reducible exact impl_TermsValid.mono _ _ _)
   | (with_reducible exact spec_DrawJoined.mono _ _)
   | (with_reducible exact spec_Joined.mono _ _ _ _ _)
   | (with_reducible exact spec_TermsValid.mono _ _ _)
   | (with_reducible exact LeO.refl _)
   | (with_reducible exact LeO.none _)
   | (with_reducible refine LeO.ite ?_ ?_)
   | (with_reducible refine LeO.bind ?_ (fun _ => ?_))
   | exact ih0 _ _ _ _ _ _ _
   | exact ih1 _ _ _ _ _
   | exact impl_Eval.mono _ _ _
   | exact impl_Joined.mono _ _ _ _ _
   | exact impl_TermsValid.mono _ _ _
   | exact spec_DrawJoined.mono _ _
   | exact spec_Joined.mono _ _ _ _ _
   | exact spec_TermsValid.mono _ _ _
   | exact LeO.none _
   | refine LeO.ite ?_ ?_
   | refine LeO.bind ?_ (fun _ => ?_)
  ·intro y0 y1 y2 y3 y4
   unfold laws_FnJoined.j1
   repeat' first
   | (with_reducible exact ih0 _ _ _ _ _ _ _)
   | (with_reducible exact ih1 _ _ _ _ _)
   | (with_reducible exact impl_Eval.mono _ _ _)
   | (with_reducible exact impl_Joined.mono _ _ _ _ _)
   | (with_reducible exact impl_TermsValid.mono _ _ _)
   | (with_reducible exact spec_DrawJoined.mono _ _)
   | (with_reducible exact spec_Joined.mono _ _ _ _ _)
   | (with_reducible exact spec_TermsValid.mono _ _ _)
   | (with_reducible exact LeO.refl _)
   | (with_reducible exact LeO.none _)
   | (with_reducible refine LeO.ite ?_ ?_)
   | (with_reducible refine LeO.bind ?_ (fun _ => ?_))
   | exact ih0 _ _ _ _ _ _ _
   | exact ih1 _ _ _ _ _
   | exact impl_Eval.mono _ _ _
   | exact impl_Joined.mono _ _ _ _ _
   | exact impl_TermsValid.mono _ _ _
   | exact spec_DrawJoined.mono _ _
   | exact spec_Joined.mono _ _ _ _ _
   | exact spec_TermsValid.mono _ _ _
   | exact LeO.none _
   | refine LeO.ite ?_ ?_
   | refine LeO.bind ?_ (fun _ => ?_)
theorem laws_FnJoined.mono : ∀ a0 k, LeO (laws_FnJoined.f k a0) (laws_FnJoined.f (k + 1) a0) := by
 intro a0 k
 obtain ⟨ih0, ih1⟩ := laws_FnJoined.mono_l k
 unfold laws_FnJoined.f
 repeat' first
   | (with_reducible exact ih0 _ _ _ _ _ _ _)
   | (with_reducible exact ih1 _ _ _ _ _)
   | (with_reducible exact impl_Eval.mono _ _ _)
   | (with_reducible exact impl_Joined.mono _ _ _ _ _)
   | (with_reducible exact impl_TermsValid.mono _ _ _)
   | (with_reducible exact spec_DrawJoined.mono _ _)
   | (with_reducible exact spec_Joined.mono _ _ _ _ _)
   | (with_reducible exact spec_TermsValid.mono _ _ _)
   | (with_reducible exact LeO.refl _)
   | (with_reducible exact LeO.none _)
   | (with_reducible refine LeO.ite ?_ ?_)
   | (with_reducible refine LeO.bind ?_ (fun _ => ?_))
   | exact ih0 _ _ _ _ _ _ _
   | exact ih1 _ _ _ _ _
   | exact impl_Eval.mono _ _ _
   | exact impl_Joined.mono _ _ _ _ _
   | exact impl_TermsValid.mono _ _ _
   | exact spec_DrawJoined.mono _ _
   | exact spec_Joined.mono _ _ _ _ _
   | exact spec_TermsValid.mono _ _ _
   | exact LeO.none _
   | refine LeO.ite ?_ ?_
   | refine LeO.bind ?_ (fun _ => ?_)
set_option maxHeartbeats 8000000 in
set_option maxRecDepth 100000 in
theorem laws_FnJoined.calls (k : Nat) (A0 : Option Addr) (c0 : Nat) (l0 : List Int) (r : Bool) (w : World) (hr0 : Kd.C (Kd.int .u8) w A0 l0.length l0) (hc0 : l0.length ≤ c0) (h : laws_FnJoined.f k l0 = some r) :
  Calls Try.prog 5 #[.slice A0 l0.length c0] w fun e w' => e = .returned (.bool r) ∧ Below w.heap.size w w' := by
 have HR0 := Aside0.mk hr0
 have HC0 := Aside0.mk hc0
 clear hr0 hc0
 have HB := Aside0.mk (Below.refl w.heap.size w)
 have H : (if (l0.length : Int) > 1048576 then (some true) else ((spec_DrawJoined.f k l0).bind fun bt420 => ((impl_Joined.f k bt420.1 bt420.2.1 bt420.2.2.1 bt420.2.2.2).bind fun t428 => ((spec_Joined.f k bt420.1 bt420.2.1 bt420.2.2.1 bt420.2.2.2).bind fun t431 => (if (t428.length : Int) = (t431.length : Int) then (laws_FnJoined.j0 k bt420.1 bt420.2.1 bt420.2.2.1 bt420.2.2.2 t428 t431 ((t428.length : Int) == 0)) else (laws_FnJoined.j0 k bt420.1 bt420.2.1 bt420.2.2.1 bt420.2.2.2 t428 t431 true)))))) = some r := h
 clear h
 by_cases c2 : (l0.length : Int) > 1048576
 ·rw [if_pos c2] at H
  have c2b0 : decide (1048576 < (l0.length : Int)) = true := decide_eq_true c2
  have c2b1 : decide (1048576 < l0.length) = true := decide_eq_true (by omega)
  clear c2
  obtain rfl := Option.some.inj H
  go_enter Try.func5, Try.ntmps5
  go_wp2
  go_ret
  exact ⟨by first | rfl | (simp [errW_none, errW_some] <;> rfl) | (simp [*, errW_none, errW_some] <;> rfl), by repeat (first | (with_reducible first | exact HB.out | apply bwA | apply bwN | apply bwD) | exact HB.out)⟩
 ·rw [if_neg c2] at H
  have c2b0 : decide (1048576 < (l0.length : Int)) = false := decide_eq_false c2
  have c2b1 : decide (1048576 < l0.length) = false := decide_eq_false (by omega)
  clear c2
  replace H := Option.bind_eq_some_iff.mp H
  obtain ⟨⟨t420, t421, t422, t423⟩, A30, H⟩ := H
  replace H : ((impl_Joined.f k t420 t421 t422 t423).bind fun t428 => ((spec_Joined.f k t420 t421 t422 t423).bind fun t431 => (if (t428.length : Int) = (t431.length : Int) then (laws_FnJoined.j0 k t420 t421 t422 t423 t428 t431 ((t428.length : Int) == 0)) else (laws_FnJoined.j0 k t420 t421 t422 t423 t428 t431 true)))) = some r := H
  have A3 := Aside0.mk A30
  clear A30
  replace H := Option.bind_eq_some_iff.mp H
  obtain ⟨t428, A40, H⟩ := H
  replace H : ((spec_Joined.f k t420 t421 t422 t423).bind fun t431 => (if (t428.length : Int) = (t431.length : Int) then (laws_FnJoined.j0 k t420 t421 t422 t423 t428 t431 ((t428.length : Int) == 0)) else (laws_FnJoined.j0 k t420 t421 t422 t423 t428 t431 true))) = some r := H
  have A4 := Aside0.mk A40
  clear A40
  replace H := Option.bind_eq_some_iff.mp H
  obtain ⟨t431, A50, H⟩ := H
  replace H : (if (t428.length : Int) = (t431.length : Int) then (laws_FnJoined.j0 k t420 t421 t422 t423 t428 t431 ((t428.length : Int) == 0)) else (laws_FnJoined.j0 k t420 t421 t422 t423 t428 t431 true)) = some r := H
  have A5 := Aside0.mk A50
  clear A50
  have HC6 := Aside0.mk H
  clear H
  go_enter Try.func5, Try.ntmps5
  go_upto_region 6 with (first | ((with_reducible refine gate_callee (f := 25) rfl ?_); refine goesL_ (some 21) rfl rfl Try.func25 (by kernel_rfl) rfl #[.slice A0 l0.length c0] rfl (by (try simp only [List.map_toArray, List.map_cons, List.map_nil]); first | done | rfl | (simp only [List.length_drop, List.length_take]; rfl)) ?_; (with_reducible refine (spec_DrawJoined.calls k _ _ l0 t420 t421 t422 t423 _ ?side1 ?side2 A3.out).mono ?_); (case side1 => repeat (first | exact HR0.out | (with_reducible refine Kd.C_alloc ?_ _) | (with_reducible refine Kd.C_drewN ?_ _) | (with_reducible refine Kd.C_drew ?_))); (case side2 => exact HC0.out); rintro e w7 ⟨v424, v426, rfl, ho0, ho1, hb⟩; refine ⟨_, rfl, ?_⟩; have n0_ := Aside0.mk (Kd.R_lower ho0 (below_size (by repeat (first | (with_reducible first | exact HB.out | apply bwA | apply bwN | apply bwD) | exact HB.out)))); have n1_ := Aside0.mk (Kd.R_lower ho1 (below_size (by repeat (first | (with_reducible first | exact HB.out | apply bwA | apply bwN | apply bwD) | exact HB.out)))); have n2_ := Aside0.mk (below_step (by repeat (first | (with_reducible first | exact HB.out | apply bwA | apply bwN | apply bwD) | exact HB.out)) hb); clear HB; have HO425 := n0_; have HO427 := n1_; have HB := n2_; clear n0_ n1_ n2_; (try clear hb); (try clear hb2); (try clear hk); (try clear hi); (try clear ho0); (try clear ho1); obtain ⟨Ao8, co8, eo8⟩ := Kd.R_slice HO425.out; subst eo8; obtain ⟨Ao9, co9, eo9⟩ := Kd.R_slice HO427.out; subst eo9) | ((with_reducible refine gate_callee (f := 26) rfl ?_); refine goesL_ (some 30) rfl rfl Try.func26 (by kernel_rfl) rfl #[.int .i64 t420, .slice Ao8 t421.length co8, .slice Ao9 t422.length co9, .int .i64 t423] rfl (by (try simp only [List.map_toArray, List.map_cons, List.map_nil]); first | done | rfl | (simp only [List.length_drop, List.length_take]; rfl)) ?_; (with_reducible refine (impl_Joined.calls k t420 _ _ t421 _ _ t422 t423 t428 _ ?side1 ?side2 ?side3 ?side4 A4.out).mono ?_); (case side1 => repeat (first | exact (Kd.R_reads' HO425.out).2.2 | (with_reducible refine Kd.C_alloc ?_ _) | (with_reducible refine Kd.C_drewN ?_ _) | (with_reducible refine Kd.C_drew ?_))); (case side2 => exact (Kd.R_reads' HO425.out).2.1); (case side3 => repeat (first | exact (Kd.R_reads' HO427.out).2.2 | (with_reducible refine Kd.C_alloc ?_ _) | (with_reducible refine Kd.C_drewN ?_ _) | (with_reducible refine Kd.C_drew ?_))); (case side4 => exact (Kd.R_reads' HO427.out).2.1); rintro e w10 ⟨v429, rfl, ho0, hb⟩; refine ⟨_, rfl, ?_⟩; have n0_ := Aside0.mk (Kd.R_elder' (by (with_reducible repeat (first | apply Kd.R_alloc | apply Kd.R_drewN | apply Kd.R_drew)); exact HO425.out) (Kd.R_base ho0) hb); have n1_ := Aside0.mk (Kd.R_elder' (by (with_reducible repeat (first | apply Kd.R_alloc | apply Kd.R_drewN | apply Kd.R_drew)); exact HO427.out) (Kd.R_base ho0) hb); have n2_ := Aside0.mk (Kd.R_lower (Kd.R_new' (Kd.R_new' ho0 (Kd.R_lt (by (with_reducible repeat (first | apply Kd.R_alloc | apply Kd.R_drewN | apply Kd.R_drew)); exact HO425.out))) (Kd.R_lt (by (with_reducible repeat (first | apply Kd.R_alloc | apply Kd.R_drewN | apply Kd.R_drew)); exact HO427.out))) (below_size (by repeat (first | (with_reducible first | exact HB.out | apply bwA | apply bwN | apply bwD) | exact HB.out)))); have n3_ := Aside0.mk (below_step (by repeat (first | (with_reducible first | exact HB.out | apply bwA | apply bwN | apply bwD) | exact HB.out)) hb); clear HO425; clear HO427; clear HB; have HO425 := n0_; have HO427 := n1_; have HO430 := n2_; have HB := n3_; clear n0_ n1_ n2_ n3_; (try clear hb); (try clear hb2); (try clear hk); (try clear hi); (try clear ho0)) | ((with_reducible refine gate_callee (f := 27) rfl ?_); refine goesL_ (some 35) rfl rfl Try.func27 (by kernel_rfl) rfl #[.int .i64 t420, .slice Ao8 t421.length co8, .slice Ao9 t422.length co9, .int .i64 t423] rfl (by (try simp only [List.map_toArray, List.map_cons, List.map_nil]); first | done | rfl | (simp only [List.length_drop, List.length_take]; rfl)) ?_; (with_reducible refine (spec_Joined.calls k t420 _ _ t421 _ _ t422 t423 t431 _ ?side1 ?side2 ?side3 ?side4 A5.out).mono ?_); (case side1 => repeat (first | exact (Kd.R_reads' HO425.out).2.2 | (with_reducible refine Kd.C_alloc ?_ _) | (with_reducible refine Kd.C_drewN ?_ _) | (with_reducible refine Kd.C_drew ?_))); (case side2 => exact (Kd.R_reads' HO425.out).2.1); (case side3 => repeat (first | exact (Kd.R_reads' HO427.out).2.2 | (with_reducible refine Kd.C_alloc ?_ _) | (with_reducible refine Kd.C_drewN ?_ _) | (with_reducible refine Kd.C_drew ?_))); (case side4 => exact (Kd.R_reads' HO427.out).2.1); rintro e w11 ⟨v432, rfl, ho0, hb⟩; refine ⟨_, rfl, ?_⟩; have n0_ := Aside0.mk (Kd.R_elder' (by (with_reducible repeat (first | apply Kd.R_alloc | apply Kd.R_drewN | apply Kd.R_drew)); exact HO425.out) (Kd.R_base ho0) hb); have n1_ := Aside0.mk (Kd.R_elder' (by (with_reducible repeat (first | apply Kd.R_alloc | apply Kd.R_drewN | apply Kd.R_drew)); exact HO427.out) (Kd.R_base ho0) hb); have n2_ := Aside0.mk (Kd.R_elder' (by (with_reducible repeat (first | apply Kd.R_alloc | apply Kd.R_drewN | apply Kd.R_drew)); exact HO430.out) (Kd.R_base ho0) hb); have n3_ := Aside0.mk (Kd.R_lower (Kd.R_new' (Kd.R_new' (Kd.R_new' ho0 (Kd.R_lt (by (with_reducible repeat (first | apply Kd.R_alloc | apply Kd.R_drewN | apply Kd.R_drew)); exact HO425.out))) (Kd.R_lt (by (with_reducible repeat (first | apply Kd.R_alloc | apply Kd.R_drewN | apply Kd.R_drew)); exact HO427.out))) (Kd.R_lt (by (with_reducible repeat (first | apply Kd.R_alloc | apply Kd.R_drewN | apply Kd.R_drew)); exact HO430.out))) (below_size (by repeat (first | (with_reducible first | exact HB.out | apply bwA | apply bwN | apply bwD) | exact HB.out)))); have n4_ := Aside0.mk (below_step (by repeat (first | (with_reducible first | exact HB.out | apply bwA | apply bwN | apply bwD) | exact HB.out)) hb); clear HO425; clear HO427; clear HO430; clear HB; have HO425 := n0_; have HO427 := n1_; have HO430 := n2_; have HO433 := n3_; have HB := n4_; clear n0_ n1_ n2_ n3_ n4_; (try clear hb); (try clear hb2); (try clear hk); (try clear hi); (try clear ho0)))
  (try simp only [Act.put, List.setIfInBounds_toArray, List.set_cons_zero, List.set_cons_succ])
  go_cut [45] (fun v45 wc => ∃ (kq : Nat) (x45_5 : Bool), v45 = .bool x45_5 ∧ Aside0 (laws_FnJoined.j0 kq t420 t421 t422 t423 t428 t431 x45_5 = some r) ∧ Aside0 (kq ≤ k) ∧ Aside0 (Kd.R k73 73 wc w.heap.size (fun k_ => some k_ ≠ ((.slice Ao9 t422.length co9) : Value).ownBlock ∧ some k_ ≠ (v429 : Value).ownBlock ∧ some k_ ≠ (v432 : Value).ownBlock) (.slice Ao8 t421.length co8) t421) ∧ Aside0 (Kd.R k73 73 wc w.heap.size (fun k_ => some k_ ≠ ((.slice Ao8 t421.length co8) : Value).ownBlock ∧ some k_ ≠ (v429 : Value).ownBlock ∧ some k_ ≠ (v432 : Value).ownBlock) (.slice Ao9 t422.length co9) t422) ∧ Aside0 (Kd.R k73 73 wc w.heap.size (fun k_ => some k_ ≠ ((.slice Ao8 t421.length co8) : Value).ownBlock ∧ some k_ ≠ ((.slice Ao9 t422.length co9) : Value).ownBlock ∧ some k_ ≠ (v432 : Value).ownBlock) v429 t428) ∧ Aside0 (Kd.R k73 73 wc w.heap.size (fun k_ => some k_ ≠ ((.slice Ao8 t421.length co8) : Value).ownBlock ∧ some k_ ≠ ((.slice Ao9 t422.length co9) : Value).ownBlock ∧ some k_ ≠ (v429 : Value).ownBlock) v432 t431) ∧ Aside0 (Below w.heap.size w wc))
  case first =>
   have H := HC6.out
   clear HC6
   by_cases c12 : (t428.length : Int) = (t431.length : Int)
   ·rw [if_pos c12] at H
    have c12b0 : ((t428.length : Int) == (t431.length : Int)) = true := beq_iff_eq.mpr c12
    have c12b1 : ((t428.length : Int) != (t431.length : Int)) = false := bne_eq_false_iff_eq.mpr c12
    have c12b2 : (t428.length == t431.length) = true := by first | simpa using c12 | (simp at c12 ⊢; omega)
    clear c12
    (first | rw [c12b0] | (simp only [i64_w, i32_w]; rw [c12b0]) | skip)
    have H' := Aside0.mk H
    clear H
    obtain ⟨Ao13, co13, eo13⟩ := Kd.R_slice HO430.out
    subst eo13
    obtain ⟨Ao14, co14, eo14⟩ := Kd.R_slice HO433.out
    subst eo14
    go_wp2
    go_meet
    case rel => exact ⟨_, (((t428.length : Int) == 0)), (by first | rfl | (simp; done) | (simp [*]; done)), H', ⟨by first | omega | exact Nat.le_refl _⟩, ⟨by (with_reducible repeat (first | apply Kd.R_alloc | apply Kd.R_drewN | apply Kd.R_drew)); exact Kd.R_mono HO425.out (fun _ hk => ⟨hk.1.1, ⟨hk.1.2, hk.2⟩⟩)⟩, ⟨by (with_reducible repeat (first | apply Kd.R_alloc | apply Kd.R_drewN | apply Kd.R_drew)); exact Kd.R_mono HO427.out (fun _ hk => ⟨hk.1.1, ⟨hk.1.2, hk.2⟩⟩)⟩, ⟨by (with_reducible repeat (first | apply Kd.R_alloc | apply Kd.R_drewN | apply Kd.R_drew)); exact Kd.R_mono HO430.out (fun _ hk => ⟨hk.1.1.2, ⟨hk.1.2, hk.2⟩⟩)⟩, ⟨by (with_reducible repeat (first | apply Kd.R_alloc | apply Kd.R_drewN | apply Kd.R_drew)); exact Kd.R_mono HO433.out (fun _ hk => ⟨hk.1.1.2, ⟨hk.1.2, hk.2⟩⟩)⟩, ⟨by repeat (first | (with_reducible first | exact HB.out | apply bwA | apply bwN | apply bwD) | exact HB.out)⟩⟩
   ·rw [if_neg c12] at H
    have c12b0 : ((t428.length : Int) == (t431.length : Int)) = false := beq_eq_false_iff_ne.mpr c12
    have c12b1 : ((t428.length : Int) != (t431.length : Int)) = true := bne_iff_ne.mpr c12
    have c12b2 : (t428.length == t431.length) = false := by first | simpa using c12 | (simp at c12 ⊢; omega)
    (first | rw [c12b0] | (simp only [i64_w, i32_w]; rw [c12b0]) | skip)
    have H' := Aside0.mk H
    clear H
    obtain ⟨Ao15, co15, eo15⟩ := Kd.R_slice HO430.out
    subst eo15
    obtain ⟨Ao16, co16, eo16⟩ := Kd.R_slice HO433.out
    subst eo16
    go_wp2
    go_meet
    case rel => exact ⟨_, (true), (by first | rfl | (simp; done) | (simp [*]; done)), H', ⟨by first | omega | exact Nat.le_refl _⟩, ⟨by (with_reducible repeat (first | apply Kd.R_alloc | apply Kd.R_drewN | apply Kd.R_drew)); exact Kd.R_mono HO425.out (fun _ hk => ⟨hk.1.1, ⟨hk.1.2, hk.2⟩⟩)⟩, ⟨by (with_reducible repeat (first | apply Kd.R_alloc | apply Kd.R_drewN | apply Kd.R_drew)); exact Kd.R_mono HO427.out (fun _ hk => ⟨hk.1.1, ⟨hk.1.2, hk.2⟩⟩)⟩, ⟨by (with_reducible repeat (first | apply Kd.R_alloc | apply Kd.R_drewN | apply Kd.R_drew)); exact Kd.R_mono HO430.out (fun _ hk => ⟨hk.1.1.2, ⟨hk.1.2, hk.2⟩⟩)⟩, ⟨by (with_reducible repeat (first | apply Kd.R_alloc | apply Kd.R_drewN | apply Kd.R_drew)); exact Kd.R_mono HO433.out (fun _ hk => ⟨hk.1.1.2, ⟨hk.1.2, hk.2⟩⟩)⟩, ⟨by repeat (first | (with_reducible first | exact HB.out | apply bwA | apply bwN | apply bwD) | exact HB.out)⟩⟩
  case rest =>
   clear HC6
   try clear c1
   try clear c2
   try clear c2b0
   try clear c2b1
   try clear p2
   try clear c5
   try clear c12
   try clear c12b0
   try clear c12b1
   try clear c12b2
   obtain ⟨kq, x45_5, rfl, HA, HJ5, HO_4, HO_5, HO_7, HO_8, HB⟩ := hcut
   cases kq with
   | zero => exact absurd HA.out (by simp [laws_FnJoined.j0])
   | succ kj5 =>
    have H := HA.out
    clear HA
    simp only [laws_FnJoined.j0] at H
    by_cases c17 : x45_5 = true
    ·subst c17
     have H1 : (if (t428.length : Int) = (t431.length : Int) then ((impl_TermsValid.f kj5 t428 t423).bind fun t434 => (if t434 = true then (some false) else ((impl_TermsValid.f kj5 t421 t423).bind fun t435 => ((spec_TermsValid.f kj5 t421 t423).bind fun t436 => (if (t435 == t436) = true then (if t420 < 2 then (some true) else (if t420 > 9 then (some true) else (some (decide ((wrap64 ((t421.length : Int) + (t422.length : Int))) > 0))))) else (some false)))))) else (some false)) = some r := by rw [if_pos rfl] at H; exact H
     clear H
     have H := H1
     clear H1
     by_cases c18 : (t428.length : Int) = (t431.length : Int)
     ·rw [if_pos c18] at H
      have c18b0 : ((t428.length : Int) == (t431.length : Int)) = true := beq_iff_eq.mpr c18
      have c18b1 : ((t428.length : Int) != (t431.length : Int)) = false := bne_eq_false_iff_eq.mpr c18
      have c18b2 : (t428.length == t431.length) = true := by first | simpa using c18 | (simp at c18 ⊢; omega)
      clear c18
      replace H := Option.bind_eq_some_iff.mp H
      obtain ⟨t434, A190, H⟩ := H
      replace H : (if t434 = true then (some false) else ((impl_TermsValid.f kj5 t421 t423).bind fun t435 => ((spec_TermsValid.f kj5 t421 t423).bind fun t436 => (if (t435 == t436) = true then (if t420 < 2 then (some true) else (if t420 > 9 then (some true) else (some (decide ((wrap64 ((t421.length : Int) + (t422.length : Int))) > 0))))) else (some false))))) = some r := H
      have A19 := Aside0.mk A190
      clear A190
      by_cases c20 : t434 = true
      ·subst c20
       have H1 : (some false) = some r := by rw [if_pos rfl] at H; exact H
       clear H
       have H := H1
       clear H1
       obtain rfl := Option.some.inj H
       obtain ⟨Ao21, co21, eo21⟩ := Kd.R_slice HO_7.out
       subst eo21
       obtain ⟨Ao22, co22, eo22⟩ := Kd.R_slice HO_8.out
       subst eo22
       go_wp2_with (first | (go_at_call 23; (with_reducible refine (impl_TermsValid.calls kj5 _ _ t428 t423 true _ ?side1 ?side2 A19.out).mono ?_); (case side1 => repeat (first | exact (Kd.R_reads' HO_7.out).2.2 | (with_reducible refine Kd.C_alloc ?_ _) | (with_reducible refine Kd.C_drewN ?_ _) | (with_reducible refine Kd.C_drew ?_))); (case side2 => exact (Kd.R_reads' HO_7.out).2.1); rintro e w23 ⟨rfl, hb⟩; have n0_ := Aside0.mk (Kd.R_below (by (with_reducible repeat (first | apply Kd.R_alloc | apply Kd.R_drewN | apply Kd.R_drew)); exact HO_4.out) hb); have n1_ := Aside0.mk (Kd.R_below (by (with_reducible repeat (first | apply Kd.R_alloc | apply Kd.R_drewN | apply Kd.R_drew)); exact HO_5.out) hb); have n2_ := Aside0.mk (Kd.R_below (by (with_reducible repeat (first | apply Kd.R_alloc | apply Kd.R_drewN | apply Kd.R_drew)); exact HO_7.out) hb); have n3_ := Aside0.mk (Kd.R_below (by (with_reducible repeat (first | apply Kd.R_alloc | apply Kd.R_drewN | apply Kd.R_drew)); exact HO_8.out) hb); have n4_ := Aside0.mk (below_step (by repeat (first | (with_reducible first | exact HB.out | apply bwA | apply bwN | apply bwD) | exact HB.out)) hb); clear HO_4; clear HO_5; clear HO_7; clear HO_8; clear HB; have HO_4 := n0_; have HO_5 := n1_; have HO_7 := n2_; have HO_8 := n3_; have HB := n4_; clear n0_ n1_ n2_ n3_ n4_; (try clear hb); (try clear hb2); (try clear hk); (try clear hi)))
       go_ret
       exact ⟨by first | rfl | (simp [errW_none, errW_some] <;> rfl) | (simp [*, errW_none, errW_some] <;> rfl), by repeat (first | (with_reducible first | exact HB.out | apply bwA | apply bwN | apply bwD) | exact HB.out)⟩
      ·replace c20 := Bool.eq_false_iff.mpr c20
       subst c20
       have H1 : ((impl_TermsValid.f kj5 t421 t423).bind fun t435 => ((spec_TermsValid.f kj5 t421 t423).bind fun t436 => (if (t435 == t436) = true then (if t420 < 2 then (some true) else (if t420 > 9 then (some true) else (some (decide ((wrap64 ((t421.length : Int) + (t422.length : Int))) > 0))))) else (some false)))) = some r := by rw [if_neg (show ¬ (false = true) by decide)] at H; exact H
       clear H
       have H := H1
       clear H1
       replace H := Option.bind_eq_some_iff.mp H
       obtain ⟨t435, A240, H⟩ := H
       replace H : ((spec_TermsValid.f kj5 t421 t423).bind fun t436 => (if (t435 == t436) = true then (if t420 < 2 then (some true) else (if t420 > 9 then (some true) else (some (decide ((wrap64 ((t421.length : Int) + (t422.length : Int))) > 0))))) else (some false))) = some r := H
       have A24 := Aside0.mk A240
       clear A240
       replace H := Option.bind_eq_some_iff.mp H
       obtain ⟨t436, A250, H⟩ := H
       replace H : (if (t435 == t436) = true then (if t420 < 2 then (some true) else (if t420 > 9 then (some true) else (some (decide ((wrap64 ((t421.length : Int) + (t422.length : Int))) > 0))))) else (some false)) = some r := H
       have A25 := Aside0.mk A250
       clear A250
       by_cases c26 : (t435 == t436) = true
       ·rw [if_pos c26] at H
        have c26b0 : (t435 == t436) = true := c26
        (try (have c26b1 : decide (t435 = t436) = true := by simpa using c26))
        (try (have c26b2 : (t435 == t436) = true := by simpa using c26))
        clear c26
        by_cases c27 : t420 < 2
        ·rw [if_pos c27] at H
         have c27b0 : decide (t420 < 2) = true := decide_eq_true c27
         clear c27
         obtain rfl := Option.some.inj H
         obtain ⟨Ao28, co28, eo28⟩ := Kd.R_slice HO_7.out
         subst eo28
         obtain ⟨Ao29, co29, eo29⟩ := Kd.R_slice HO_8.out
         subst eo29
         go_wp2_with (first | (go_at_call 23; (with_reducible refine (impl_TermsValid.calls kj5 _ _ t428 t423 false _ ?side1 ?side2 A19.out).mono ?_); (case side1 => repeat (first | exact (Kd.R_reads' HO_7.out).2.2 | (with_reducible refine Kd.C_alloc ?_ _) | (with_reducible refine Kd.C_drewN ?_ _) | (with_reducible refine Kd.C_drew ?_))); (case side2 => exact (Kd.R_reads' HO_7.out).2.1); rintro e w30 ⟨rfl, hb⟩; have n0_ := Aside0.mk (Kd.R_below (by (with_reducible repeat (first | apply Kd.R_alloc | apply Kd.R_drewN | apply Kd.R_drew)); exact HO_4.out) hb); have n1_ := Aside0.mk (Kd.R_below (by (with_reducible repeat (first | apply Kd.R_alloc | apply Kd.R_drewN | apply Kd.R_drew)); exact HO_5.out) hb); have n2_ := Aside0.mk (Kd.R_below (by (with_reducible repeat (first | apply Kd.R_alloc | apply Kd.R_drewN | apply Kd.R_drew)); exact HO_7.out) hb); have n3_ := Aside0.mk (Kd.R_below (by (with_reducible repeat (first | apply Kd.R_alloc | apply Kd.R_drewN | apply Kd.R_drew)); exact HO_8.out) hb); have n4_ := Aside0.mk (below_step (by repeat (first | (with_reducible first | exact HB.out | apply bwA | apply bwN | apply bwD) | exact HB.out)) hb); clear HO_4; clear HO_5; clear HO_7; clear HO_8; clear HB; have HO_4 := n0_; have HO_5 := n1_; have HO_7 := n2_; have HO_8 := n3_; have HB := n4_; clear n0_ n1_ n2_ n3_ n4_; (try clear hb); (try clear hb2); (try clear hk); (try clear hi)) | (go_at_call 23; (with_reducible refine (impl_TermsValid.calls kj5 _ _ t421 t423 t435 _ ?side1 ?side2 A24.out).mono ?_); (case side1 => repeat (first | exact (Kd.R_reads' HO_4.out).2.2 | (with_reducible refine Kd.C_alloc ?_ _) | (with_reducible refine Kd.C_drewN ?_ _) | (with_reducible refine Kd.C_drew ?_))); (case side2 => exact (Kd.R_reads' HO_4.out).2.1); rintro e w31 ⟨rfl, hb⟩; have n0_ := Aside0.mk (Kd.R_below (by (with_reducible repeat (first | apply Kd.R_alloc | apply Kd.R_drewN | apply Kd.R_drew)); exact HO_4.out) hb); have n1_ := Aside0.mk (Kd.R_below (by (with_reducible repeat (first | apply Kd.R_alloc | apply Kd.R_drewN | apply Kd.R_drew)); exact HO_5.out) hb); have n2_ := Aside0.mk (Kd.R_below (by (with_reducible repeat (first | apply Kd.R_alloc | apply Kd.R_drewN | apply Kd.R_drew)); exact HO_7.out) hb); have n3_ := Aside0.mk (Kd.R_below (by (with_reducible repeat (first | apply Kd.R_alloc | apply Kd.R_drewN | apply Kd.R_drew)); exact HO_8.out) hb); have n4_ := Aside0.mk (below_step (by repeat (first | (with_reducible first | exact HB.out | apply bwA | apply bwN | apply bwD) | exact HB.out)) hb); clear HO_4; clear HO_5; clear HO_7; clear HO_8; clear HB; have HO_4 := n0_; have HO_5 := n1_; have HO_7 := n2_; have HO_8 := n3_; have HB := n4_; clear n0_ n1_ n2_ n3_ n4_; (try clear hb); (try clear hb2); (try clear hk); (try clear hi)) | (go_at_call 24; (with_reducible refine (spec_TermsValid.calls kj5 _ _ t421 t423 t436 _ ?side1 ?side2 A25.out).mono ?_); (case side1 => repeat (first | exact (Kd.R_reads' HO_4.out).2.2 | (with_reducible refine Kd.C_alloc ?_ _) | (with_reducible refine Kd.C_drewN ?_ _) | (with_reducible refine Kd.C_drew ?_))); (case side2 => exact (Kd.R_reads' HO_4.out).2.1); rintro e w32 ⟨rfl, hb⟩; have n0_ := Aside0.mk (Kd.R_below (by (with_reducible repeat (first | apply Kd.R_alloc | apply Kd.R_drewN | apply Kd.R_drew)); exact HO_4.out) hb); have n1_ := Aside0.mk (Kd.R_below (by (with_reducible repeat (first | apply Kd.R_alloc | apply Kd.R_drewN | apply Kd.R_drew)); exact HO_5.out) hb); have n2_ := Aside0.mk (Kd.R_below (by (with_reducible repeat (first | apply Kd.R_alloc | apply Kd.R_drewN | apply Kd.R_drew)); exact HO_7.out) hb); have n3_ := Aside0.mk (Kd.R_below (by (with_reducible repeat (first | apply Kd.R_alloc | apply Kd.R_drewN | apply Kd.R_drew)); exact HO_8.out) hb); have n4_ := Aside0.mk (below_step (by repeat (first | (with_reducible first | exact HB.out | apply bwA | apply bwN | apply bwD) | exact HB.out)) hb); clear HO_4; clear HO_5; clear HO_7; clear HO_8; clear HB; have HO_4 := n0_; have HO_5 := n1_; have HO_7 := n2_; have HO_8 := n3_; have HB := n4_; clear n0_ n1_ n2_ n3_ n4_; (try clear hb); (try clear hb2); (try clear hk); (try clear hi)))
         go_ret
         exact ⟨by first | rfl | (simp [errW_none, errW_some] <;> rfl) | (simp [*, errW_none, errW_some] <;> rfl), by repeat (first | (with_reducible first | exact HB.out | apply bwA | apply bwN | apply bwD) | exact HB.out)⟩
        ·rw [if_neg c27] at H
         have c27b0 : decide (t420 < 2) = false := decide_eq_false c27
         clear c27
         by_cases c33 : t420 > 9
         ·rw [if_pos c33] at H
          have c33b0 : decide (9 < t420) = true := decide_eq_true c33
          clear c33
          obtain rfl := Option.some.inj H
          obtain ⟨Ao34, co34, eo34⟩ := Kd.R_slice HO_7.out
          subst eo34
          obtain ⟨Ao35, co35, eo35⟩ := Kd.R_slice HO_8.out
          subst eo35
          go_wp2_with (first | (go_at_call 23; (with_reducible refine (impl_TermsValid.calls kj5 _ _ t428 t423 false _ ?side1 ?side2 A19.out).mono ?_); (case side1 => repeat (first | exact (Kd.R_reads' HO_7.out).2.2 | (with_reducible refine Kd.C_alloc ?_ _) | (with_reducible refine Kd.C_drewN ?_ _) | (with_reducible refine Kd.C_drew ?_))); (case side2 => exact (Kd.R_reads' HO_7.out).2.1); rintro e w36 ⟨rfl, hb⟩; have n0_ := Aside0.mk (Kd.R_below (by (with_reducible repeat (first | apply Kd.R_alloc | apply Kd.R_drewN | apply Kd.R_drew)); exact HO_4.out) hb); have n1_ := Aside0.mk (Kd.R_below (by (with_reducible repeat (first | apply Kd.R_alloc | apply Kd.R_drewN | apply Kd.R_drew)); exact HO_5.out) hb); have n2_ := Aside0.mk (Kd.R_below (by (with_reducible repeat (first | apply Kd.R_alloc | apply Kd.R_drewN | apply Kd.R_drew)); exact HO_7.out) hb); have n3_ := Aside0.mk (Kd.R_below (by (with_reducible repeat (first | apply Kd.R_alloc | apply Kd.R_drewN | apply Kd.R_drew)); exact HO_8.out) hb); have n4_ := Aside0.mk (below_step (by repeat (first | (with_reducible first | exact HB.out | apply bwA | apply bwN | apply bwD) | exact HB.out)) hb); clear HO_4; clear HO_5; clear HO_7; clear HO_8; clear HB; have HO_4 := n0_; have HO_5 := n1_; have HO_7 := n2_; have HO_8 := n3_; have HB := n4_; clear n0_ n1_ n2_ n3_ n4_; (try clear hb); (try clear hb2); (try clear hk); (try clear hi)) | (go_at_call 23; (with_reducible refine (impl_TermsValid.calls kj5 _ _ t421 t423 t435 _ ?side1 ?side2 A24.out).mono ?_); (case side1 => repeat (first | exact (Kd.R_reads' HO_4.out).2.2 | (with_reducible refine Kd.C_alloc ?_ _) | (with_reducible refine Kd.C_drewN ?_ _) | (with_reducible refine Kd.C_drew ?_))); (case side2 => exact (Kd.R_reads' HO_4.out).2.1); rintro e w37 ⟨rfl, hb⟩; have n0_ := Aside0.mk (Kd.R_below (by (with_reducible repeat (first | apply Kd.R_alloc | apply Kd.R_drewN | apply Kd.R_drew)); exact HO_4.out) hb); have n1_ := Aside0.mk (Kd.R_below (by (with_reducible repeat (first | apply Kd.R_alloc | apply Kd.R_drewN | apply Kd.R_drew)); exact HO_5.out) hb); have n2_ := Aside0.mk (Kd.R_below (by (with_reducible repeat (first | apply Kd.R_alloc | apply Kd.R_drewN | apply Kd.R_drew)); exact HO_7.out) hb); have n3_ := Aside0.mk (Kd.R_below (by (with_reducible repeat (first | apply Kd.R_alloc | apply Kd.R_drewN | apply Kd.R_drew)); exact HO_8.out) hb); have n4_ := Aside0.mk (below_step (by repeat (first | (with_reducible first | exact HB.out | apply bwA | apply bwN | apply bwD) | exact HB.out)) hb); clear HO_4; clear HO_5; clear HO_7; clear HO_8; clear HB; have HO_4 := n0_; have HO_5 := n1_; have HO_7 := n2_; have HO_8 := n3_; have HB := n4_; clear n0_ n1_ n2_ n3_ n4_; (try clear hb); (try clear hb2); (try clear hk); (try clear hi)) | (go_at_call 24; (with_reducible refine (spec_TermsValid.calls kj5 _ _ t421 t423 t436 _ ?side1 ?side2 A25.out).mono ?_); (case side1 => repeat (first | exact (Kd.R_reads' HO_4.out).2.2 | (with_reducible refine Kd.C_alloc ?_ _) | (with_reducible refine Kd.C_drewN ?_ _) | (with_reducible refine Kd.C_drew ?_))); (case side2 => exact (Kd.R_reads' HO_4.out).2.1); rintro e w38 ⟨rfl, hb⟩; have n0_ := Aside0.mk (Kd.R_below (by (with_reducible repeat (first | apply Kd.R_alloc | apply Kd.R_drewN | apply Kd.R_drew)); exact HO_4.out) hb); have n1_ := Aside0.mk (Kd.R_below (by (with_reducible repeat (first | apply Kd.R_alloc | apply Kd.R_drewN | apply Kd.R_drew)); exact HO_5.out) hb); have n2_ := Aside0.mk (Kd.R_below (by (with_reducible repeat (first | apply Kd.R_alloc | apply Kd.R_drewN | apply Kd.R_drew)); exact HO_7.out) hb); have n3_ := Aside0.mk (Kd.R_below (by (with_reducible repeat (first | apply Kd.R_alloc | apply Kd.R_drewN | apply Kd.R_drew)); exact HO_8.out) hb); have n4_ := Aside0.mk (below_step (by repeat (first | (with_reducible first | exact HB.out | apply bwA | apply bwN | apply bwD) | exact HB.out)) hb); clear HO_4; clear HO_5; clear HO_7; clear HO_8; clear HB; have HO_4 := n0_; have HO_5 := n1_; have HO_7 := n2_; have HO_8 := n3_; have HB := n4_; clear n0_ n1_ n2_ n3_ n4_; (try clear hb); (try clear hb2); (try clear hk); (try clear hi)))
          go_ret
          exact ⟨by first | rfl | (simp [errW_none, errW_some] <;> rfl) | (simp [*, errW_none, errW_some] <;> rfl), by repeat (first | (with_reducible first | exact HB.out | apply bwA | apply bwN | apply bwD) | exact HB.out)⟩
         ·rw [if_neg c33] at H
          have c33b0 : decide (9 < t420) = false := decide_eq_false c33
          clear c33
          obtain rfl := Option.some.inj H
          obtain ⟨Ao39, co39, eo39⟩ := Kd.R_slice HO_7.out
          subst eo39
          obtain ⟨Ao40, co40, eo40⟩ := Kd.R_slice HO_8.out
          subst eo40
          go_wp2_with (first | (go_at_call 23; (with_reducible refine (impl_TermsValid.calls kj5 _ _ t428 t423 false _ ?side1 ?side2 A19.out).mono ?_); (case side1 => repeat (first | exact (Kd.R_reads' HO_7.out).2.2 | (with_reducible refine Kd.C_alloc ?_ _) | (with_reducible refine Kd.C_drewN ?_ _) | (with_reducible refine Kd.C_drew ?_))); (case side2 => exact (Kd.R_reads' HO_7.out).2.1); rintro e w41 ⟨rfl, hb⟩; have n0_ := Aside0.mk (Kd.R_below (by (with_reducible repeat (first | apply Kd.R_alloc | apply Kd.R_drewN | apply Kd.R_drew)); exact HO_4.out) hb); have n1_ := Aside0.mk (Kd.R_below (by (with_reducible repeat (first | apply Kd.R_alloc | apply Kd.R_drewN | apply Kd.R_drew)); exact HO_5.out) hb); have n2_ := Aside0.mk (Kd.R_below (by (with_reducible repeat (first | apply Kd.R_alloc | apply Kd.R_drewN | apply Kd.R_drew)); exact HO_7.out) hb); have n3_ := Aside0.mk (Kd.R_below (by (with_reducible repeat (first | apply Kd.R_alloc | apply Kd.R_drewN | apply Kd.R_drew)); exact HO_8.out) hb); have n4_ := Aside0.mk (below_step (by repeat (first | (with_reducible first | exact HB.out | apply bwA | apply bwN | apply bwD) | exact HB.out)) hb); clear HO_4; clear HO_5; clear HO_7; clear HO_8; clear HB; have HO_4 := n0_; have HO_5 := n1_; have HO_7 := n2_; have HO_8 := n3_; have HB := n4_; clear n0_ n1_ n2_ n3_ n4_; (try clear hb); (try clear hb2); (try clear hk); (try clear hi)) | (go_at_call 23; (with_reducible refine (impl_TermsValid.calls kj5 _ _ t421 t423 t435 _ ?side1 ?side2 A24.out).mono ?_); (case side1 => repeat (first | exact (Kd.R_reads' HO_4.out).2.2 | (with_reducible refine Kd.C_alloc ?_ _) | (with_reducible refine Kd.C_drewN ?_ _) | (with_reducible refine Kd.C_drew ?_))); (case side2 => exact (Kd.R_reads' HO_4.out).2.1); rintro e w42 ⟨rfl, hb⟩; have n0_ := Aside0.mk (Kd.R_below (by (with_reducible repeat (first | apply Kd.R_alloc | apply Kd.R_drewN | apply Kd.R_drew)); exact HO_4.out) hb); have n1_ := Aside0.mk (Kd.R_below (by (with_reducible repeat (first | apply Kd.R_alloc | apply Kd.R_drewN | apply Kd.R_drew)); exact HO_5.out) hb); have n2_ := Aside0.mk (Kd.R_below (by (with_reducible repeat (first | apply Kd.R_alloc | apply Kd.R_drewN | apply Kd.R_drew)); exact HO_7.out) hb); have n3_ := Aside0.mk (Kd.R_below (by (with_reducible repeat (first | apply Kd.R_alloc | apply Kd.R_drewN | apply Kd.R_drew)); exact HO_8.out) hb); have n4_ := Aside0.mk (below_step (by repeat (first | (with_reducible first | exact HB.out | apply bwA | apply bwN | apply bwD) | exact HB.out)) hb); clear HO_4; clear HO_5; clear HO_7; clear HO_8; clear HB; have HO_4 := n0_; have HO_5 := n1_; have HO_7 := n2_; have HO_8 := n3_; have HB := n4_; clear n0_ n1_ n2_ n3_ n4_; (try clear hb); (try clear hb2); (try clear hk); (try clear hi)) | (go_at_call 24; (with_reducible refine (spec_TermsValid.calls kj5 _ _ t421 t423 t436 _ ?side1 ?side2 A25.out).mono ?_); (case side1 => repeat (first | exact (Kd.R_reads' HO_4.out).2.2 | (with_reducible refine Kd.C_alloc ?_ _) | (with_reducible refine Kd.C_drewN ?_ _) | (with_reducible refine Kd.C_drew ?_))); (case side2 => exact (Kd.R_reads' HO_4.out).2.1); rintro e w43 ⟨rfl, hb⟩; have n0_ := Aside0.mk (Kd.R_below (by (with_reducible repeat (first | apply Kd.R_alloc | apply Kd.R_drewN | apply Kd.R_drew)); exact HO_4.out) hb); have n1_ := Aside0.mk (Kd.R_below (by (with_reducible repeat (first | apply Kd.R_alloc | apply Kd.R_drewN | apply Kd.R_drew)); exact HO_5.out) hb); have n2_ := Aside0.mk (Kd.R_below (by (with_reducible repeat (first | apply Kd.R_alloc | apply Kd.R_drewN | apply Kd.R_drew)); exact HO_7.out) hb); have n3_ := Aside0.mk (Kd.R_below (by (with_reducible repeat (first | apply Kd.R_alloc | apply Kd.R_drewN | apply Kd.R_drew)); exact HO_8.out) hb); have n4_ := Aside0.mk (below_step (by repeat (first | (with_reducible first | exact HB.out | apply bwA | apply bwN | apply bwD) | exact HB.out)) hb); clear HO_4; clear HO_5; clear HO_7; clear HO_8; clear HB; have HO_4 := n0_; have HO_5 := n1_; have HO_7 := n2_; have HO_8 := n3_; have HB := n4_; clear n0_ n1_ n2_ n3_ n4_; (try clear hb); (try clear hb2); (try clear hk); (try clear hi)))
          go_ret
          exact ⟨by first | rfl | (simp [errW_none, errW_some] <;> rfl) | (simp [*, errW_none, errW_some] <;> rfl), by repeat (first | (with_reducible first | exact HB.out | apply bwA | apply bwN | apply bwD) | exact HB.out)⟩
       ·rw [if_neg c26] at H
        have c26b0 : (t435 == t436) = false := by simpa using c26
        (try (have c26b1 : decide (t435 = t436) = false := by simpa using c26))
        (try (have c26b2 : (t435 == t436) = false := by simpa using c26))
        (try (have c26b3 : ¬ (t435 = t436) := by simpa using c26))
        clear c26
        obtain rfl := Option.some.inj H
        obtain ⟨Ao44, co44, eo44⟩ := Kd.R_slice HO_7.out
        subst eo44
        obtain ⟨Ao45, co45, eo45⟩ := Kd.R_slice HO_8.out
        subst eo45
        go_wp2_with (first | (go_at_call 23; (with_reducible refine (impl_TermsValid.calls kj5 _ _ t428 t423 false _ ?side1 ?side2 A19.out).mono ?_); (case side1 => repeat (first | exact (Kd.R_reads' HO_7.out).2.2 | (with_reducible refine Kd.C_alloc ?_ _) | (with_reducible refine Kd.C_drewN ?_ _) | (with_reducible refine Kd.C_drew ?_))); (case side2 => exact (Kd.R_reads' HO_7.out).2.1); rintro e w46 ⟨rfl, hb⟩; have n0_ := Aside0.mk (Kd.R_below (by (with_reducible repeat (first | apply Kd.R_alloc | apply Kd.R_drewN | apply Kd.R_drew)); exact HO_4.out) hb); have n1_ := Aside0.mk (Kd.R_below (by (with_reducible repeat (first | apply Kd.R_alloc | apply Kd.R_drewN | apply Kd.R_drew)); exact HO_5.out) hb); have n2_ := Aside0.mk (Kd.R_below (by (with_reducible repeat (first | apply Kd.R_alloc | apply Kd.R_drewN | apply Kd.R_drew)); exact HO_7.out) hb); have n3_ := Aside0.mk (Kd.R_below (by (with_reducible repeat (first | apply Kd.R_alloc | apply Kd.R_drewN | apply Kd.R_drew)); exact HO_8.out) hb); have n4_ := Aside0.mk (below_step (by repeat (first | (with_reducible first | exact HB.out | apply bwA | apply bwN | apply bwD) | exact HB.out)) hb); clear HO_4; clear HO_5; clear HO_7; clear HO_8; clear HB; have HO_4 := n0_; have HO_5 := n1_; have HO_7 := n2_; have HO_8 := n3_; have HB := n4_; clear n0_ n1_ n2_ n3_ n4_; (try clear hb); (try clear hb2); (try clear hk); (try clear hi)) | (go_at_call 23; (with_reducible refine (impl_TermsValid.calls kj5 _ _ t421 t423 t435 _ ?side1 ?side2 A24.out).mono ?_); (case side1 => repeat (first | exact (Kd.R_reads' HO_4.out).2.2 | (with_reducible refine Kd.C_alloc ?_ _) | (with_reducible refine Kd.C_drewN ?_ _) | (with_reducible refine Kd.C_drew ?_))); (case side2 => exact (Kd.R_reads' HO_4.out).2.1); rintro e w47 ⟨rfl, hb⟩; have n0_ := Aside0.mk (Kd.R_below (by (with_reducible repeat (first | apply Kd.R_alloc | apply Kd.R_drewN | apply Kd.R_drew)); exact HO_4.out) hb); have n1_ := Aside0.mk (Kd.R_below (by (with_reducible repeat (first | apply Kd.R_alloc | apply Kd.R_drewN | apply Kd.R_drew)); exact HO_5.out) hb); have n2_ := Aside0.mk (Kd.R_below (by (with_reducible repeat (first | apply Kd.R_alloc | apply Kd.R_drewN | apply Kd.R_drew)); exact HO_7.out) hb); have n3_ := Aside0.mk (Kd.R_below (by (with_reducible repeat (first | apply Kd.R_alloc | apply Kd.R_drewN | apply Kd.R_drew)); exact HO_8.out) hb); have n4_ := Aside0.mk (below_step (by repeat (first | (with_reducible first | exact HB.out | apply bwA | apply bwN | apply bwD) | exact HB.out)) hb); clear HO_4; clear HO_5; clear HO_7; clear HO_8; clear HB; have HO_4 := n0_; have HO_5 := n1_; have HO_7 := n2_; have HO_8 := n3_; have HB := n4_; clear n0_ n1_ n2_ n3_ n4_; (try clear hb); (try clear hb2); (try clear hk); (try clear hi)) | (go_at_call 24; (with_reducible refine (spec_TermsValid.calls kj5 _ _ t421 t423 t436 _ ?side1 ?side2 A25.out).mono ?_); (case side1 => repeat (first | exact (Kd.R_reads' HO_4.out).2.2 | (with_reducible refine Kd.C_alloc ?_ _) | (with_reducible refine Kd.C_drewN ?_ _) | (with_reducible refine Kd.C_drew ?_))); (case side2 => exact (Kd.R_reads' HO_4.out).2.1); rintro e w48 ⟨rfl, hb⟩; have n0_ := Aside0.mk (Kd.R_below (by (with_reducible repeat (first | apply Kd.R_alloc | apply Kd.R_drewN | apply Kd.R_drew)); exact HO_4.out) hb); have n1_ := Aside0.mk (Kd.R_below (by (with_reducible repeat (first | apply Kd.R_alloc | apply Kd.R_drewN | apply Kd.R_drew)); exact HO_5.out) hb); have n2_ := Aside0.mk (Kd.R_below (by (with_reducible repeat (first | apply Kd.R_alloc | apply Kd.R_drewN | apply Kd.R_drew)); exact HO_7.out) hb); have n3_ := Aside0.mk (Kd.R_below (by (with_reducible repeat (first | apply Kd.R_alloc | apply Kd.R_drewN | apply Kd.R_drew)); exact HO_8.out) hb); have n4_ := Aside0.mk (below_step (by repeat (first | (with_reducible first | exact HB.out | apply bwA | apply bwN | apply bwD) | exact HB.out)) hb); clear HO_4; clear HO_5; clear HO_7; clear HO_8; clear HB; have HO_4 := n0_; have HO_5 := n1_; have HO_7 := n2_; have HO_8 := n3_; have HB := n4_; clear n0_ n1_ n2_ n3_ n4_; (try clear hb); (try clear hb2); (try clear hk); (try clear hi)))
        go_ret
        exact ⟨by first | rfl | (simp [errW_none, errW_some] <;> rfl) | (simp [*, errW_none, errW_some] <;> rfl), by repeat (first | (with_reducible first | exact HB.out | apply bwA | apply bwN | apply bwD) | exact HB.out)⟩
     ·rw [if_neg c18] at H
      have c18b0 : ((t428.length : Int) == (t431.length : Int)) = false := beq_eq_false_iff_ne.mpr c18
      have c18b1 : ((t428.length : Int) != (t431.length : Int)) = true := bne_iff_ne.mpr c18
      have c18b2 : (t428.length == t431.length) = false := by first | simpa using c18 | (simp at c18 ⊢; omega)
      obtain rfl := Option.some.inj H
      obtain ⟨Ao49, co49, eo49⟩ := Kd.R_slice HO_7.out
      subst eo49
      obtain ⟨Ao50, co50, eo50⟩ := Kd.R_slice HO_8.out
      subst eo50
      go_wp2
      go_ret
      exact ⟨by first | rfl | (simp [errW_none, errW_some] <;> rfl) | (simp [*, errW_none, errW_some] <;> rfl), by repeat (first | (with_reducible first | exact HB.out | apply bwA | apply bwN | apply bwD) | exact HB.out)⟩
    ·replace c17 := Bool.eq_false_iff.mpr c17
     subst c17
     have H1 : ((some (([3, (-1), 2, 0, 1] : List Int) : List Int)).bind fun y437 => (if 0 ≤ t423 then (if t423 ≤ (y437.length : Int) then ((some (y437.take (t423 : Int).toNat : List Int)).bind fun y440 => ((impl_Eval.f kj5 t421 y440).bind fun bt444 => ((impl_Eval.f kj5 t422 y440).bind fun bt446 => ((impl_Eval.f kj5 t428 y440).bind fun bt448 => (if bt444.2 = true then (if bt446.2 = true then (laws_FnJoined.j1 kj5 t420 bt444.1 bt446.1 bt448.1 (!bt448.2)) else (laws_FnJoined.j1 kj5 t420 bt444.1 bt446.1 bt448.1 true)) else (laws_FnJoined.j1 kj5 t420 bt444.1 bt446.1 bt448.1 true)))))) else (none)) else (none))) = some r := by rw [if_neg (show ¬ (false = true) by decide)] at H; exact H
     clear H
     have H := H1
     clear H1
     obtain ⟨y437, hy437⟩ : ∃ y_ : List Int, y_ = (([3, (-1), 2, 0, 1] : List Int)) := ⟨_, rfl⟩
     replace H : (if 0 ≤ t423 then (if t423 ≤ (y437.length : Int) then ((some (y437.take (t423 : Int).toNat : List Int)).bind fun y440 => ((impl_Eval.f kj5 t421 y440).bind fun bt444 => ((impl_Eval.f kj5 t422 y440).bind fun bt446 => ((impl_Eval.f kj5 t428 y440).bind fun bt448 => (if bt444.2 = true then (if bt446.2 = true then (laws_FnJoined.j1 kj5 t420 bt444.1 bt446.1 bt448.1 (!bt448.2)) else (laws_FnJoined.j1 kj5 t420 bt444.1 bt446.1 bt448.1 true)) else (laws_FnJoined.j1 kj5 t420 bt444.1 bt446.1 bt448.1 true)))))) else (none)) else (none)) = some r := by first | (rw [hy437]; with_reducible exact H) | (have H2_ := (Option.bind_some _ _).symm.trans H; rw [hy437]; with_reducible exact H2_) | (have H2_ := (Option.bind_some _ _).symm.trans H; with_reducible exact H2_) | with_reducible exact H | (rw [hy437]; exact H) | exact H
     have Ny437 := Aside0.mk hy437
     clear hy437
     by_cases c51 : 0 ≤ t423
     ·rw [if_pos c51] at H
      have c51b0 := eq_true c51
      have c51b1 : decide (0 ≤ t423) = true := decide_eq_true c51
      clear c51
      by_cases c52 : t423 ≤ (y437.length : Int)
      ·rw [if_pos c52] at H
       have c52b0 := eq_true c52
       have c52b1 : decide (t423 ≤ (y437.length : Int)) = true := decide_eq_true c52
       clear c52
       obtain ⟨y440, hy440⟩ : ∃ y_ : List Int, y_ = (y437.take (t423 : Int).toNat) := ⟨_, rfl⟩
       replace H : ((impl_Eval.f kj5 t421 y440).bind fun bt444 => ((impl_Eval.f kj5 t422 y440).bind fun bt446 => ((impl_Eval.f kj5 t428 y440).bind fun bt448 => (if bt444.2 = true then (if bt446.2 = true then (laws_FnJoined.j1 kj5 t420 bt444.1 bt446.1 bt448.1 (!bt448.2)) else (laws_FnJoined.j1 kj5 t420 bt444.1 bt446.1 bt448.1 true)) else (laws_FnJoined.j1 kj5 t420 bt444.1 bt446.1 bt448.1 true))))) = some r := by first | (rw [hy440]; with_reducible exact H) | (have H2_ := (Option.bind_some _ _).symm.trans H; rw [hy440]; with_reducible exact H2_) | (have H2_ := (Option.bind_some _ _).symm.trans H; with_reducible exact H2_) | with_reducible exact H | (rw [hy440]; exact H) | exact H
       have Ny440 := Aside0.mk hy440
       clear hy440
       replace H := Option.bind_eq_some_iff.mp H
       obtain ⟨⟨t444, t445⟩, A530, H⟩ := H
       replace H : ((impl_Eval.f kj5 t422 y440).bind fun bt446 => ((impl_Eval.f kj5 t428 y440).bind fun bt448 => (if t445 = true then (if bt446.2 = true then (laws_FnJoined.j1 kj5 t420 t444 bt446.1 bt448.1 (!bt448.2)) else (laws_FnJoined.j1 kj5 t420 t444 bt446.1 bt448.1 true)) else (laws_FnJoined.j1 kj5 t420 t444 bt446.1 bt448.1 true)))) = some r := H
       have A53 := Aside0.mk A530
       clear A530
       replace H := Option.bind_eq_some_iff.mp H
       obtain ⟨⟨t446, t447⟩, A540, H⟩ := H
       replace H : ((impl_Eval.f kj5 t428 y440).bind fun bt448 => (if t445 = true then (if t447 = true then (laws_FnJoined.j1 kj5 t420 t444 t446 bt448.1 (!bt448.2)) else (laws_FnJoined.j1 kj5 t420 t444 t446 bt448.1 true)) else (laws_FnJoined.j1 kj5 t420 t444 t446 bt448.1 true))) = some r := H
       have A54 := Aside0.mk A540
       clear A540
       replace H := Option.bind_eq_some_iff.mp H
       obtain ⟨⟨t448, t449⟩, A550, H⟩ := H
       replace H : (if t445 = true then (if t447 = true then (laws_FnJoined.j1 kj5 t420 t444 t446 t448 (!t449)) else (laws_FnJoined.j1 kj5 t420 t444 t446 t448 true)) else (laws_FnJoined.j1 kj5 t420 t444 t446 t448 true)) = some r := H
       have A55 := Aside0.mk A550
       clear A550
       have HC56 := Aside0.mk H
       clear H
       go_upto_region 12 with (first | ((with_reducible refine gate_dst (N := 82) rfl ?_); (try (refine gate_guard (by rfl) ?_; dsimp only)); refine Kd.R_lit (Kd.int .i64) _ 3 ?hg (N := 82) ?hd (xs := ([3, (-1), 2, 0, 1] : List Int)) (inner := [.int .i64 3, .int .i64 (-1), .int .i64 2, .int .i64 0, .int .i64 1]) (ok := fun _ => True) (okp := fun _ => True) ?hr ?hp (fun _ hk => hk) trivial (Below.refl _ _) (Nat.le_refl _) (by simp) ?_; (case hd => rfl); (case hg => rfl); (case hr => first | (go_simp; done) | (go_simp; rfl)); (case hp => exact (Reps.one (show Kd.M (Kd.int .i64) _ _ _ 3 [.int .i64 3] from rfl) (Reps.one (show Kd.M (Kd.int .i64) _ _ _ (-1) [.int .i64 (-1)] from rfl) (Reps.one (show Kd.M (Kd.int .i64) _ _ _ 2 [.int .i64 2] from rfl) (Reps.one (show Kd.M (Kd.int .i64) _ _ _ 0 [.int .i64 0] from rfl) (Reps.one (show Kd.M (Kd.int .i64) _ _ _ 1 [.int .i64 1] from rfl) (Reps.none _ _))))))); intro v438 w57 ho58 hb hg_ hnew_; clear hg_ hnew_; (first | rw [← Ny437.out] at ho58 | (simp only [Int.reduceToNat] at ho58; rw [← Ny437.out] at ho58)); have n0_ := Aside0.mk (Kd.R_below (by (with_reducible repeat (first | apply Kd.R_alloc | apply Kd.R_drewN | apply Kd.R_drew)); exact HO_4.out) hb); have n1_ := Aside0.mk (Kd.R_below (by (with_reducible repeat (first | apply Kd.R_alloc | apply Kd.R_drewN | apply Kd.R_drew)); exact HO_5.out) hb); have n2_ := Aside0.mk (Kd.R_below (by (with_reducible repeat (first | apply Kd.R_alloc | apply Kd.R_drewN | apply Kd.R_drew)); exact HO_7.out) hb); have n3_ := Aside0.mk (Kd.R_below (by (with_reducible repeat (first | apply Kd.R_alloc | apply Kd.R_drewN | apply Kd.R_drew)); exact HO_8.out) hb); have n4_ := Aside0.mk (Kd.R_lower ho58 (below_size (by repeat (first | (with_reducible first | exact HB.out | apply bwA | apply bwN | apply bwD) | exact HB.out)))); have n5_ := Aside0.mk (below_step (by repeat (first | (with_reducible first | exact HB.out | apply bwA | apply bwN | apply bwD) | exact HB.out)) hb); clear HO_4; clear HO_5; clear HO_7; clear HO_8; clear HB; have HO_4 := n0_; have HO_5 := n1_; have HO_7 := n2_; have HO_8 := n3_; have HO439 := n4_; have HB := n5_; clear n0_ n1_ n2_ n3_ n4_ n5_; clear hb ho58; obtain ⟨Ao60, co60, eo60⟩ := Kd.R_slice HO439.out; subst eo60; have q59 : (t423 : Int) ≤ ((y437.length : Int) : Int) := of_decide_eq_true (by first | (with_reducible assumption) | assumption); obtain ⟨i059, hi059, _, hsz59, _⟩ := info_parts info3; have hroom59 : y437.length ≤ co60 := (Kd.R_reads' HO439.out).2.1; have hC59 : Kd.C (Kd.int .i64) _ Ao60 y437.length y437 := (Kd.R_reads' HO439.out).2.2; have hcut59 := cut_to (P := Try.prog) 23 3 .i64 Try.underlying23 hi059 Ao60 y437.length co60 t423 (of_decide_eq_true (by first | (with_reducible assumption) | assumption)) q59 hroom59; have hr59 := Kd.C_take (m := (t423 : Int).toNat) hC59 (by omega); have hy59 : y440.length = (t423 : Int).toNat := (by rw [Ny440.out, List.length_take]; omega); rw [← Ny440.out] at hr59; rw [← hy59] at hcut59; have HR443 := Aside0.mk hr59; have HC443 := Aside0.mk (show y440.length ≤ co60 from by omega); clear hr59 hC59 hroom59 hi059 hsz59; have KY59 := Aside0.mk hy59; clear hy59; have KL59 := Aside0.mk (show (t423 : Int).toNat ≤ y437.length from by omega); replace q59 := eq_true q59) | ((with_reducible refine gate_callee (f := 17) rfl ?_); refine goesL_ (some 88) rfl rfl Try.func17 (by kernel_rfl) rfl #[.slice Ao8 t421.length co8, .slice Ao60 y440.length co60] rfl (by (try simp only [List.map_toArray, List.map_cons, List.map_nil]); first | done | rfl | (simp only [List.length_drop, List.length_take]; rfl)) ?_; (with_reducible refine (impl_Eval.calls kj5 _ _ t421 _ _ y440 t444 t445 _ ?side1 ?side2 ?side3 ?side4 A53.out).mono ?_); (case side1 => repeat (first | exact (Kd.R_reads' HO_4.out).2.2 | (with_reducible refine Kd.C_alloc ?_ _) | (with_reducible refine Kd.C_drewN ?_ _) | (with_reducible refine Kd.C_drew ?_))); (case side2 => exact (Kd.R_reads' HO_4.out).2.1); (case side3 => repeat (first | exact (by repeat (first | (with_reducible exact HR443.out) | (with_reducible refine Kd.C_alloc ?_ _) | (with_reducible refine Kd.C_drewN ?_ _) | (with_reducible refine Kd.C_drew ?_) | exact HR443.out)) | (with_reducible refine Kd.C_alloc ?_ _) | (with_reducible refine Kd.C_drewN ?_ _) | (with_reducible refine Kd.C_drew ?_))); (case side4 => exact HC443.out); rintro e w61 ⟨rfl, hb⟩; refine ⟨_, rfl, ?_⟩; have n0_ := Aside0.mk (Kd.R_below (by (with_reducible repeat (first | apply Kd.R_alloc | apply Kd.R_drewN | apply Kd.R_drew)); exact HO_4.out) hb); have n1_ := Aside0.mk (Kd.R_below (by (with_reducible repeat (first | apply Kd.R_alloc | apply Kd.R_drewN | apply Kd.R_drew)); exact HO_5.out) hb); have n2_ := Aside0.mk (Kd.R_below (by (with_reducible repeat (first | apply Kd.R_alloc | apply Kd.R_drewN | apply Kd.R_drew)); exact HO_7.out) hb); have n3_ := Aside0.mk (Kd.R_below (by (with_reducible repeat (first | apply Kd.R_alloc | apply Kd.R_drewN | apply Kd.R_drew)); exact HO_8.out) hb); have n4_ := Aside0.mk (Kd.R_below (by (with_reducible repeat (first | apply Kd.R_alloc | apply Kd.R_drewN | apply Kd.R_drew)); exact HO439.out) hb); have n5_ := Aside0.mk (Kd.C_below (by repeat (first | (with_reducible exact HR443.out) | (with_reducible refine Kd.C_alloc ?_ _) | (with_reducible refine Kd.C_drewN ?_ _) | (with_reducible refine Kd.C_drew ?_) | exact HR443.out)) hb); have n6_ := Aside0.mk (below_step (by repeat (first | (with_reducible first | exact HB.out | apply bwA | apply bwN | apply bwD) | exact HB.out)) hb); clear HO_4; clear HO_5; clear HO_7; clear HO_8; clear HO439; clear HR443; clear HB; have HO_4 := n0_; have HO_5 := n1_; have HO_7 := n2_; have HO_8 := n3_; have HO439 := n4_; have HR443 := n5_; have HB := n6_; clear n0_ n1_ n2_ n3_ n4_ n5_ n6_; (try clear hb); (try clear hb2); (try clear hk); (try clear hi)) | ((with_reducible refine gate_callee (f := 17) rfl ?_); refine goesL_ (some 94) rfl rfl Try.func17 (by kernel_rfl) rfl #[.slice Ao9 t422.length co9, .slice Ao60 y440.length co60] rfl (by (try simp only [List.map_toArray, List.map_cons, List.map_nil]); first | done | rfl | (simp only [List.length_drop, List.length_take]; rfl)) ?_; (with_reducible refine (impl_Eval.calls kj5 _ _ t422 _ _ y440 t446 t447 _ ?side1 ?side2 ?side3 ?side4 A54.out).mono ?_); (case side1 => repeat (first | exact (Kd.R_reads' HO_5.out).2.2 | (with_reducible refine Kd.C_alloc ?_ _) | (with_reducible refine Kd.C_drewN ?_ _) | (with_reducible refine Kd.C_drew ?_))); (case side2 => exact (Kd.R_reads' HO_5.out).2.1); (case side3 => repeat (first | exact (by repeat (first | (with_reducible exact HR443.out) | (with_reducible refine Kd.C_alloc ?_ _) | (with_reducible refine Kd.C_drewN ?_ _) | (with_reducible refine Kd.C_drew ?_) | exact HR443.out)) | (with_reducible refine Kd.C_alloc ?_ _) | (with_reducible refine Kd.C_drewN ?_ _) | (with_reducible refine Kd.C_drew ?_))); (case side4 => exact HC443.out); rintro e w62 ⟨rfl, hb⟩; refine ⟨_, rfl, ?_⟩; have n0_ := Aside0.mk (Kd.R_below (by (with_reducible repeat (first | apply Kd.R_alloc | apply Kd.R_drewN | apply Kd.R_drew)); exact HO_4.out) hb); have n1_ := Aside0.mk (Kd.R_below (by (with_reducible repeat (first | apply Kd.R_alloc | apply Kd.R_drewN | apply Kd.R_drew)); exact HO_5.out) hb); have n2_ := Aside0.mk (Kd.R_below (by (with_reducible repeat (first | apply Kd.R_alloc | apply Kd.R_drewN | apply Kd.R_drew)); exact HO_7.out) hb); have n3_ := Aside0.mk (Kd.R_below (by (with_reducible repeat (first | apply Kd.R_alloc | apply Kd.R_drewN | apply Kd.R_drew)); exact HO_8.out) hb); have n4_ := Aside0.mk (Kd.R_below (by (with_reducible repeat (first | apply Kd.R_alloc | apply Kd.R_drewN | apply Kd.R_drew)); exact HO439.out) hb); have n5_ := Aside0.mk (Kd.C_below (by repeat (first | (with_reducible exact HR443.out) | (with_reducible refine Kd.C_alloc ?_ _) | (with_reducible refine Kd.C_drewN ?_ _) | (with_reducible refine Kd.C_drew ?_) | exact HR443.out)) hb); have n6_ := Aside0.mk (below_step (by repeat (first | (with_reducible first | exact HB.out | apply bwA | apply bwN | apply bwD) | exact HB.out)) hb); clear HO_4; clear HO_5; clear HO_7; clear HO_8; clear HO439; clear HR443; clear HB; have HO_4 := n0_; have HO_5 := n1_; have HO_7 := n2_; have HO_8 := n3_; have HO439 := n4_; have HR443 := n5_; have HB := n6_; clear n0_ n1_ n2_ n3_ n4_ n5_ n6_; (try clear hb); (try clear hb2); (try clear hk); (try clear hi); obtain ⟨Ao63, co63, eo63⟩ := Kd.R_slice HO_7.out; subst eo63) | ((with_reducible refine gate_callee (f := 17) rfl ?_); refine goesL_ (some 100) rfl rfl Try.func17 (by kernel_rfl) rfl #[.slice Ao63 t428.length co63, .slice Ao60 y440.length co60] rfl (by (try simp only [List.map_toArray, List.map_cons, List.map_nil]); first | done | rfl | (simp only [List.length_drop, List.length_take]; rfl)) ?_; (with_reducible refine (impl_Eval.calls kj5 _ _ t428 _ _ y440 t448 t449 _ ?side1 ?side2 ?side3 ?side4 A55.out).mono ?_); (case side1 => repeat (first | exact (Kd.R_reads' HO_7.out).2.2 | (with_reducible refine Kd.C_alloc ?_ _) | (with_reducible refine Kd.C_drewN ?_ _) | (with_reducible refine Kd.C_drew ?_))); (case side2 => exact (Kd.R_reads' HO_7.out).2.1); (case side3 => repeat (first | exact (by repeat (first | (with_reducible exact HR443.out) | (with_reducible refine Kd.C_alloc ?_ _) | (with_reducible refine Kd.C_drewN ?_ _) | (with_reducible refine Kd.C_drew ?_) | exact HR443.out)) | (with_reducible refine Kd.C_alloc ?_ _) | (with_reducible refine Kd.C_drewN ?_ _) | (with_reducible refine Kd.C_drew ?_))); (case side4 => exact HC443.out); rintro e w64 ⟨rfl, hb⟩; refine ⟨_, rfl, ?_⟩; have n0_ := Aside0.mk (Kd.R_below (by (with_reducible repeat (first | apply Kd.R_alloc | apply Kd.R_drewN | apply Kd.R_drew)); exact HO_4.out) hb); have n1_ := Aside0.mk (Kd.R_below (by (with_reducible repeat (first | apply Kd.R_alloc | apply Kd.R_drewN | apply Kd.R_drew)); exact HO_5.out) hb); have n2_ := Aside0.mk (Kd.R_below (by (with_reducible repeat (first | apply Kd.R_alloc | apply Kd.R_drewN | apply Kd.R_drew)); exact HO_7.out) hb); have n3_ := Aside0.mk (Kd.R_below (by (with_reducible repeat (first | apply Kd.R_alloc | apply Kd.R_drewN | apply Kd.R_drew)); exact HO_8.out) hb); have n4_ := Aside0.mk (Kd.R_below (by (with_reducible repeat (first | apply Kd.R_alloc | apply Kd.R_drewN | apply Kd.R_drew)); exact HO439.out) hb); have n5_ := Aside0.mk (Kd.C_below (by repeat (first | (with_reducible exact HR443.out) | (with_reducible refine Kd.C_alloc ?_ _) | (with_reducible refine Kd.C_drewN ?_ _) | (with_reducible refine Kd.C_drew ?_) | exact HR443.out)) hb); have n6_ := Aside0.mk (below_step (by repeat (first | (with_reducible first | exact HB.out | apply bwA | apply bwN | apply bwD) | exact HB.out)) hb); clear HO_4; clear HO_5; clear HO_7; clear HO_8; clear HO439; clear HR443; clear HB; have HO_4 := n0_; have HO_5 := n1_; have HO_7 := n2_; have HO_8 := n3_; have HO439 := n4_; have HR443 := n5_; have HB := n6_; clear n0_ n1_ n2_ n3_ n4_ n5_ n6_; (try clear hb); (try clear hb2); (try clear hk); (try clear hi)))
       (try simp only [Act.put, List.setIfInBounds_toArray, List.set_cons_zero, List.set_cons_succ])
       go_cut [112] (fun v112 wc => ∃ (kq : Nat) (x112_55 : Bool), v112 = .bool x112_55 ∧ Aside0 (laws_FnJoined.j1 kq t420 t444 t446 t448 x112_55 = some r) ∧ Aside0 (kq ≤ kj5) ∧ Aside0 (Kd.C (Kd.int .i64) wc Ao60 y440.length y440) ∧ Aside0 (Below w.heap.size w wc))
       case first =>
        have H := HC56.out
        clear HC56
        by_cases c65 : t445 = true
        ·subst c65
         have H1 : (if t447 = true then (laws_FnJoined.j1 kj5 t420 t444 t446 t448 (!t449)) else (laws_FnJoined.j1 kj5 t420 t444 t446 t448 true)) = some r := by rw [if_pos rfl] at H; exact H
         clear H
         have H := H1
         clear H1
         by_cases c66 : t447 = true
         ·subst c66
          have H1 : (laws_FnJoined.j1 kj5 t420 t444 t446 t448 (!t449)) = some r := by rw [if_pos rfl] at H; exact H
          clear H
          have H := H1
          clear H1
          have H' := Aside0.mk H
          clear H
          go_wp2
          go_meet
          case rel => exact ⟨_, (!t449), (by first | rfl | (simp; done) | (simp [*]; done)), H', ⟨by have := HJ5.out; first | omega | exact Nat.le_refl _⟩, ⟨by repeat (first | (with_reducible exact HR443.out) | (with_reducible refine Kd.C_alloc ?_ _) | (with_reducible refine Kd.C_drewN ?_ _) | (with_reducible refine Kd.C_drew ?_) | exact HR443.out)⟩, ⟨by repeat (first | (with_reducible first | exact HB.out | apply bwA | apply bwN | apply bwD) | exact HB.out)⟩⟩
         ·replace c66 := Bool.eq_false_iff.mpr c66
          subst c66
          have H1 : (laws_FnJoined.j1 kj5 t420 t444 t446 t448 true) = some r := by rw [if_neg (show ¬ (false = true) by decide)] at H; exact H
          clear H
          have H := H1
          clear H1
          have H' := Aside0.mk H
          clear H
          go_wp2
          go_meet
          case rel => exact ⟨_, (true), (by first | rfl | (simp; done) | (simp [*]; done)), H', ⟨by have := HJ5.out; first | omega | exact Nat.le_refl _⟩, ⟨by repeat (first | (with_reducible exact HR443.out) | (with_reducible refine Kd.C_alloc ?_ _) | (with_reducible refine Kd.C_drewN ?_ _) | (with_reducible refine Kd.C_drew ?_) | exact HR443.out)⟩, ⟨by repeat (first | (with_reducible first | exact HB.out | apply bwA | apply bwN | apply bwD) | exact HB.out)⟩⟩
        ·replace c65 := Bool.eq_false_iff.mpr c65
         subst c65
         have H1 : (laws_FnJoined.j1 kj5 t420 t444 t446 t448 true) = some r := by rw [if_neg (show ¬ (false = true) by decide)] at H; exact H
         clear H
         have H := H1
         clear H1
         have H' := Aside0.mk H
         clear H
         go_wp2
         go_meet
         case rel => exact ⟨_, (true), (by first | rfl | (simp; done) | (simp [*]; done)), H', ⟨by have := HJ5.out; first | omega | exact Nat.le_refl _⟩, ⟨by repeat (first | (with_reducible exact HR443.out) | (with_reducible refine Kd.C_alloc ?_ _) | (with_reducible refine Kd.C_drewN ?_ _) | (with_reducible refine Kd.C_drew ?_) | exact HR443.out)⟩, ⟨by repeat (first | (with_reducible first | exact HB.out | apply bwA | apply bwN | apply bwD) | exact HB.out)⟩⟩
       case rest =>
        clear HC56
        try clear c1
        try clear c2
        try clear c2b0
        try clear c2b1
        try clear p2
        try clear c3
        try clear c5
        try clear q5
        try clear c6
        try clear p6
        try clear c12
        try clear c12b0
        try clear c12b1
        try clear c12b2
        try clear c17
        try clear c18
        try clear c18b0
        try clear c18b1
        try clear c18b2
        try clear c20
        try clear c25
        try clear c26
        try clear c26b0
        try clear c26b1
        try clear c26b2
        try clear c27
        try clear c27b0
        try clear c33
        try clear c33b0
        try clear c51
        try clear c51b0
        try clear c51b1
        try clear c52
        try clear c52b0
        try clear c52b1
        try clear q59
        try clear p64
        try clear c65
        try clear c66
        try clear p2
        try clear q59
        obtain ⟨kq, x112_55, rfl, HA, HJ55, HR443, HB⟩ := hcut
        cases kq with
        | zero => exact absurd HA.out (by simp [laws_FnJoined.j1])
        | succ kj55 =>
         have H := HA.out
         clear HA
         simp only [laws_FnJoined.j1] at H
         by_cases c67 : x112_55 = true
         ·subst c67
          have H1 : (some false) = some r := by rw [if_pos rfl] at H; exact H
          clear H
          have H := H1
          clear H1
          obtain rfl := Option.some.inj H
          go_wp2
          go_ret
          exact ⟨by first | rfl | (simp [errW_none, errW_some] <;> rfl) | (simp [*, errW_none, errW_some] <;> rfl), by repeat (first | (with_reducible first | exact HB.out | apply bwA | apply bwN | apply bwD) | exact HB.out)⟩
         ·replace c67 := Bool.eq_false_iff.mpr c67
          subst c67
          have H1 : (if t420 = 2 then (some (t448 == (mx (mn (wrap64 (t444 + t446)) 9999) (-9999)))) else (if t420 = 3 then (some (t448 == (mx (mn (wrap64 (t444 - t446)) 9999) (-9999)))) else (if t420 = 4 then (some (t448 == (mx (mn (wrap64 (t444 * t446)) 9999) (-9999)))) else (if t420 = 5 then (some ((t448 == 1) == (decide (t444 < t446)))) else (if t420 = 6 then (some ((t448 == 1) == (t444 == t446))) else (if t420 = 7 then (some (t448 == (wrap64 (1 - t444)))) else (if t420 = 8 then (some (t448 == (wrap64 (t444 * t446)))) else (some (t448 == (mx t444 t446)))))))))) = some r := by rw [if_neg (show ¬ (false = true) by decide)] at H; exact H
          clear H
          have H := H1
          clear H1
          by_cases c68 : t420 = 2
          ·rw [if_pos c68] at H
           have c68b0 : (t420 == 2) = true := beq_iff_eq.mpr c68
           have c68b1 : (t420 != 2) = false := bne_eq_false_iff_eq.mpr c68
           clear c68
           obtain ⟨ji69, hji69⟩ : ∃ j_ : Int, (mn (wrap64 (t444 + t446)) 9999) = j_ := ⟨_, rfl⟩
           replace H : (some (t448 == (mx (ji69) (-9999)))) = some r := by first | (rw [hji69] at H; exact H) | (simp only [hji69] at H ⊢; exact H)
           have hji69_ : (if 9999 < (wrap64 (t444 + t446)) then 9999 else (wrap64 (t444 + t446))) = ji69 := hji69
           obtain ⟨ji70, hji70⟩ : ∃ j_ : Int, (mx (ji69) (-9999)) = j_ := ⟨_, rfl⟩
           replace H : (some (t448 == (ji70))) = some r := by first | (rw [hji70] at H; exact H) | (simp only [hji70] at H ⊢; exact H)
           have hji70_ : (if (ji69) < (-9999) then (-9999) else (ji69)) = ji70 := hji70
           obtain rfl := Option.some.inj H
           go_wp2
           go_ret
           exact ⟨by first | rfl | (simp [errW_none, errW_some] <;> rfl) | (simp only [← hji69, ← hji70]; first | rfl | (simp [errW_none, errW_some] <;> rfl)) | (simp [*, errW_none, errW_some] <;> rfl), by repeat (first | (with_reducible first | exact HB.out | apply bwA | apply bwN | apply bwD) | exact HB.out)⟩
          ·rw [if_neg c68] at H
           have c68b0 : (t420 == 2) = false := beq_eq_false_iff_ne.mpr c68
           have c68b1 : (t420 != 2) = true := bne_iff_ne.mpr c68
           by_cases c71 : t420 = 3
           ·rw [if_pos c71] at H
            have c71b0 : (t420 == 3) = true := beq_iff_eq.mpr c71
            have c71b1 : (t420 != 3) = false := bne_eq_false_iff_eq.mpr c71
            clear c71
            obtain ⟨ji72, hji72⟩ : ∃ j_ : Int, (mn (wrap64 (t444 - t446)) 9999) = j_ := ⟨_, rfl⟩
            replace H : (some (t448 == (mx (ji72) (-9999)))) = some r := by first | (rw [hji72] at H; exact H) | (simp only [hji72] at H ⊢; exact H)
            have hji72_ : (if 9999 < (wrap64 (t444 - t446)) then 9999 else (wrap64 (t444 - t446))) = ji72 := hji72
            obtain ⟨ji73, hji73⟩ : ∃ j_ : Int, (mx (ji72) (-9999)) = j_ := ⟨_, rfl⟩
            replace H : (some (t448 == (ji73))) = some r := by first | (rw [hji73] at H; exact H) | (simp only [hji73] at H ⊢; exact H)
            have hji73_ : (if (ji72) < (-9999) then (-9999) else (ji72)) = ji73 := hji73
            obtain rfl := Option.some.inj H
            go_wp2
            go_ret
            exact ⟨by first | rfl | (simp [errW_none, errW_some] <;> rfl) | (simp only [← hji72, ← hji73]; first | rfl | (simp [errW_none, errW_some] <;> rfl)) | (simp [*, errW_none, errW_some] <;> rfl), by repeat (first | (with_reducible first | exact HB.out | apply bwA | apply bwN | apply bwD) | exact HB.out)⟩
           ·rw [if_neg c71] at H
            have c71b0 : (t420 == 3) = false := beq_eq_false_iff_ne.mpr c71
            have c71b1 : (t420 != 3) = true := bne_iff_ne.mpr c71
            by_cases c74 : t420 = 4
            ·rw [if_pos c74] at H
             have c74b0 : (t420 == 4) = true := beq_iff_eq.mpr c74
             have c74b1 : (t420 != 4) = false := bne_eq_false_iff_eq.mpr c74
             clear c74
             obtain ⟨ji75, hji75⟩ : ∃ j_ : Int, (mn (wrap64 (t444 * t446)) 9999) = j_ := ⟨_, rfl⟩
             replace H : (some (t448 == (mx (ji75) (-9999)))) = some r := by first | (rw [hji75] at H; exact H) | (simp only [hji75] at H ⊢; exact H)
             have hji75_ : (if 9999 < (wrap64 (t444 * t446)) then 9999 else (wrap64 (t444 * t446))) = ji75 := hji75
             obtain ⟨ji76, hji76⟩ : ∃ j_ : Int, (mx (ji75) (-9999)) = j_ := ⟨_, rfl⟩
             replace H : (some (t448 == (ji76))) = some r := by first | (rw [hji76] at H; exact H) | (simp only [hji76] at H ⊢; exact H)
             have hji76_ : (if (ji75) < (-9999) then (-9999) else (ji75)) = ji76 := hji76
             obtain rfl := Option.some.inj H
             go_wp2
             go_ret
             exact ⟨by first | rfl | (simp [errW_none, errW_some] <;> rfl) | (simp only [← hji75, ← hji76]; first | rfl | (simp [errW_none, errW_some] <;> rfl)) | (simp [*, errW_none, errW_some] <;> rfl), by repeat (first | (with_reducible first | exact HB.out | apply bwA | apply bwN | apply bwD) | exact HB.out)⟩
            ·rw [if_neg c74] at H
             have c74b0 : (t420 == 4) = false := beq_eq_false_iff_ne.mpr c74
             have c74b1 : (t420 != 4) = true := bne_iff_ne.mpr c74
             by_cases c77 : t420 = 5
             ·rw [if_pos c77] at H
              have c77b0 : (t420 == 5) = true := beq_iff_eq.mpr c77
              have c77b1 : (t420 != 5) = false := bne_eq_false_iff_eq.mpr c77
              clear c77
              obtain rfl := Option.some.inj H
              go_wp2
              go_ret
              exact ⟨by first | rfl | (simp [errW_none, errW_some] <;> rfl) | (simp [*, errW_none, errW_some] <;> rfl), by repeat (first | (with_reducible first | exact HB.out | apply bwA | apply bwN | apply bwD) | exact HB.out)⟩
             ·rw [if_neg c77] at H
              have c77b0 : (t420 == 5) = false := beq_eq_false_iff_ne.mpr c77
              have c77b1 : (t420 != 5) = true := bne_iff_ne.mpr c77
              by_cases c78 : t420 = 6
              ·rw [if_pos c78] at H
               have c78b0 : (t420 == 6) = true := beq_iff_eq.mpr c78
               have c78b1 : (t420 != 6) = false := bne_eq_false_iff_eq.mpr c78
               clear c78
               obtain rfl := Option.some.inj H
               go_wp2
               go_ret
               exact ⟨by first | rfl | (simp [errW_none, errW_some] <;> rfl) | (simp [*, errW_none, errW_some] <;> rfl), by repeat (first | (with_reducible first | exact HB.out | apply bwA | apply bwN | apply bwD) | exact HB.out)⟩
              ·rw [if_neg c78] at H
               have c78b0 : (t420 == 6) = false := beq_eq_false_iff_ne.mpr c78
               have c78b1 : (t420 != 6) = true := bne_iff_ne.mpr c78
               by_cases c79 : t420 = 7
               ·rw [if_pos c79] at H
                have c79b0 : (t420 == 7) = true := beq_iff_eq.mpr c79
                have c79b1 : (t420 != 7) = false := bne_eq_false_iff_eq.mpr c79
                clear c79
                obtain rfl := Option.some.inj H
                go_wp2
                go_ret
                exact ⟨by first | rfl | (simp [errW_none, errW_some] <;> rfl) | (simp [*, errW_none, errW_some] <;> rfl), by repeat (first | (with_reducible first | exact HB.out | apply bwA | apply bwN | apply bwD) | exact HB.out)⟩
               ·rw [if_neg c79] at H
                have c79b0 : (t420 == 7) = false := beq_eq_false_iff_ne.mpr c79
                have c79b1 : (t420 != 7) = true := bne_iff_ne.mpr c79
                by_cases c80 : t420 = 8
                ·rw [if_pos c80] at H
                 have c80b0 : (t420 == 8) = true := beq_iff_eq.mpr c80
                 have c80b1 : (t420 != 8) = false := bne_eq_false_iff_eq.mpr c80
                 clear c80
                 obtain rfl := Option.some.inj H
                 go_wp2
                 go_ret
                 exact ⟨by first | rfl | (simp [errW_none, errW_some] <;> rfl) | (simp [*, errW_none, errW_some] <;> rfl), by repeat (first | (with_reducible first | exact HB.out | apply bwA | apply bwN | apply bwD) | exact HB.out)⟩
                ·rw [if_neg c80] at H
                 have c80b0 : (t420 == 8) = false := beq_eq_false_iff_ne.mpr c80
                 have c80b1 : (t420 != 8) = true := bne_iff_ne.mpr c80
                 obtain ⟨ji81, hji81⟩ : ∃ j_ : Int, (mx t444 t446) = j_ := ⟨_, rfl⟩
                 replace H : (some (t448 == (ji81))) = some r := by first | (rw [hji81] at H; exact H) | (simp only [hji81] at H ⊢; exact H)
                 have hji81_ : (if t444 < t446 then t446 else t444) = ji81 := hji81
                 obtain rfl := Option.some.inj H
                 go_wp2
                 go_ret
                 exact ⟨by first | rfl | (simp [errW_none, errW_some] <;> rfl) | (simp only [← hji81]; first | rfl | (simp [errW_none, errW_some] <;> rfl)) | (simp [*, errW_none, errW_some] <;> rfl), by repeat (first | (with_reducible first | exact HB.out | apply bwA | apply bwN | apply bwD) | exact HB.out)⟩
      ·rw [if_neg c52] at H
       exact absurd H (by simp)
     ·rw [if_neg c51] at H
      exact absurd H (by simp)

/-- THE ONE PURE STATEMENT of laws_FnJoined: yours. -/
def laws_FnJoined.Pure : Prop := ∀ (l0 : List Int), l0.length ≤ maxLen → l0.length * 1 ≤ 140737488351232 → (∀ x ∈ l0, (Lit.int .u8 x).wf = true) → ∃ k, laws_FnJoined.f k l0 = some true
theorem laws_FnJoined.walk (P : laws_FnJoined.Pure) (a0 : Option Addr) (len0 cap0 : Nat) (z0 : List Int) (w : World) (w0 : (a0 = none ∧ len0 = 0 ∧ cap0 = 0 ∧ z0 = []) ∨ ∃ x, a0 = some x ∧ len0 ≤ cap0 ∧ cap0 ≤ maxLen ∧ z0.length = cap0 ∧ (∀ i, i < z0.length → w.cell? (x.add i) = some (.int .u8 (z0.getD i 0))) ∧ ∀ n ∈ z0, (Lit.int .u8 n).wf = true) (y0 : len0 * 1 ≤ 140737488351232) :
  Calls Try.prog 5 #[.slice a0 len0 cap0] w fun e w' => e = .returned (.bool true) ∧ Below w.heap.size w w' := by
 obtain ⟨l0, rfl, hr0, hm0, hw0, hc0⟩ := ReadsInt.ofRowC w0
 obtain ⟨k, h⟩ := P l0 hm0 y0 hw0
 refine (laws_FnJoined.calls k _ _ l0 true w (Kd.C_of_reads (d := (0 : Int)) (h1 := fun _ => rfl) hr0) hc0 h).mono ?_
 rintro e w' ⟨rfl, hd⟩
 exact ⟨rfl, hd⟩

end Go.Proofs.Ytpfkgmcbogcmoaa.QFnJoined
