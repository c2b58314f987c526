-- Written by a program of this session (mk.py). Lean checks it.
import Derived.Test.YtpfkgmcbogcmoaaQFnJoinedx0
import Derived.Test.YtpfkgmcbogcmoaaQFnJoinedx3
import Derived.Test.YtpfkgmcbogcmoaaQFnJoinedx5
import Derived.Test.YtpfkgmcbogcmoaaQFnJoinedx8
namespace Go.Proofs.Ytpfkgmcbogcmoaa.QFnJoined
open Go.RowKit Go.Proofs.YtpfkgmcbogcmoaaW.PrintWords Go.Proofs.YtpfkgmcbogcmoaaW.PrintLast Go.Proofs.YtpfkgmcbogcmoaaW.PrintMore
attribute [local go_sem] max2_int min2_int max_two min_two max_three min_three max_four min_four   -- for this text's walks alone
set_option linter.unusedVariables false
set_option linter.unusedSimpArgs false

/-! ### spec_Joined: function 27 -/
mutual
def spec_Joined.j0 : Nat → Int → List (S73) → List (S73) → Int → Bool → Option ((List (S73)))
 | 0, _, _, _, _, _ => none
 | k + 1, x0, x1, x2, x3, x21 => if x21 = true then (some ([] : List (S73))) else (spec_Joined.l0 k x0 x1 x2 x3 (([] : List (S73))) 0)
def spec_Joined.l0 : Nat → Int → List (S73) → List (S73) → Int → List (S73) → Int → Option ((List (S73)))
 | 0, _, _, _, _, _, _ => none
 | k + 1, x0, x1, x2, x3, x9, x10 => if x10 < (x1.length : Int) then (if 0 ≤ x10 then (if x9.length < 4398046511104 then (spec_Joined.l0 k x0 x1 x2 x3 (x9 ++ [(⟨(rd_T73 x1 x10).f0, (rd_T73 x1 x10).f1, (rd_T73 x1 x10).f2, (rd_T73 x1 x10).f3⟩ : S73)]) (wrap64 (x10 + 1))) else (none)) else (none)) else (spec_Joined.l1 k x0 x1 x2 x3 x9 0)
def spec_Joined.l1 : Nat → Int → List (S73) → List (S73) → Int → List (S73) → Int → Option ((List (S73)))
 | 0, _, _, _, _, _, _ => none
 | k + 1, x0, x1, x2, x3, x9, x11 => if x11 < (x2.length : Int) then ((spec_l1One.f x0).bind fun t403 => (if t403 = true then (if x9.length < 4398046511104 then ((some (x9 ++ [(⟨x0, 0, wrap64 ((x1.length : Int) - 1), wrap64 ((x9.length : Int) - 1)⟩ : S73)] : List (S73))).bind fun y404 => (if x0 < 2 then (some ([] : List (S73))) else ((spec_TermsValid.f k y404 x3).bind fun t407 => (if t407 = true then (some y404) else (some ([] : List (S73))))))) else (none)) else (if 0 ≤ x11 then ((spec_l1Moved.f ((rd_T73 x2 x11).f0) ((rd_T73 x2 x11).f1) ((rd_T73 x2 x11).f2) ((rd_T73 x2 x11).f3) (x1.length : Int)).bind fun bt409 => (if x9.length < 4398046511104 then (spec_Joined.l1 k x0 x1 x2 x3 (x9 ++ [(⟨bt409.1, bt409.2.1, bt409.2.2.1, bt409.2.2.2⟩ : S73)]) (wrap64 (x11 + 1))) else (none))) else (none)))) else (if x9.length < 4398046511104 then ((some (x9 ++ [(⟨x0, 0, wrap64 ((x1.length : Int) - 1), wrap64 ((x9.length : Int) - 1)⟩ : S73)] : List (S73))).bind fun y416 => (if x0 < 2 then (some ([] : List (S73))) else ((spec_TermsValid.f k y416 x3).bind fun t419 => (if t419 = true then (some y416) else (some ([] : List (S73))))))) else (none))
end
def spec_Joined.f (k : Nat) (a0 : Int) (l1 : List (S73)) (l2 : List (S73)) (a3 : Int) : Option ((List (S73))) := (spec_TermsValid.f k l1 a3).bind fun t394 => (if t394 = true then ((spec_TermsValid.f k l2 a3).bind fun t395 => (spec_Joined.j0 k a0 l1 l2 a3 (!t395))) else (spec_Joined.j0 k a0 l1 l2 a3 true))
theorem spec_Joined.mono_l : ∀ k, (∀ y0 y1 y2 y3 y4, LeO (spec_Joined.j0 k y0 y1 y2 y3 y4) (spec_Joined.j0 (k + 1) y0 y1 y2 y3 y4)) ∧ (∀ y0 y1 y2 y3 y4 y5, LeO (spec_Joined.l0 k y0 y1 y2 y3 y4 y5) (spec_Joined.l0 (k + 1) y0 y1 y2 y3 y4 y5)) ∧ (∀ y0 y1 y2 y3 y4 y5, LeO (spec_Joined.l1 k y0 y1 y2 y3 y4 y5) (spec_Joined.l1 (k + 1) y0 y1 y2 y3 y4 y5))
 | 0 => ⟨fun _ _ _ _ _ r h => by simp [spec_Joined.j0] at h, fun _ _ _ _ _ _ r h => by simp [spec_Joined.l0] at h, fun _ _ _ _ _ _ r h => by simp [spec_Joined.l1] at h⟩
 | k + 1 => by
  obtain ⟨ih0, ih1, ih2⟩ := spec_Joined.mono_l k
  refine ⟨?_, ?_, ?_⟩
  ·intro y0 y1 y2 y3 y4
   unfold spec_Joined.j0
   repeat' first
   | (with_reducible exact ih0 _ _ _ _ _)
   | (with_reducible exact ih1 _ _ _ _ _ _)
   | (with_reducible exact ih2 _ _ _ _ _ _)
   | (with_reducible exact spec_TermsValid.mono _ _ _)
   | (with_reducible exact LeO.refl _)
   | (with_reducible exact LeO.none _)
   | (with_reducible refine LeO.ite ?_ ?_)
   | (with_reducible refine LeO.bind ?_ (fun _ => ?_))
   | exact ih0 _ _ _ _ _
   | exact ih1 _ _ _ _ _ _
   | exact ih2 _ _ _ _ _ _
   | exact spec_TermsValid.mono _ _ _
   | exact LeO.none _
   | refine LeO.ite ?_ ?_
   | refine LeO.bind ?_ (fun _ => ?_)
  ·intro y0 y1 y2 y3 y4 y5
   unfold spec_Joined.l0
   repeat' first
   | (with_reducible exact ih0 _ _ _ _ _)
   | (with_reducible exact ih1 _ _ _ _ _ _)
   | (with_reducible exact ih2 _ _ _ _ _ _)
   | (with_reducible exact spec_TermsValid.mono _ _ _)
   | (with_reducible exact LeO.refl _)
   | (with_reducible exact LeO.none _)
   | (with_reducible refine LeO.ite ?_ ?_)
   | (with_reducible refine LeO.bind ?_ (fun _ => ?_))
   | exact ih0 _ _ _ _ _
   | exact ih1 _ _ _ _ _ _
   | exact ih2 _ _ _ _ _ _
   | exact spec_TermsValid.mono _ _ _
   | exact LeO.none _
   | refine LeO.ite ?_ ?_
   | refine LeO.bind ?_ (fun _ => ?_)
  ·intro y0 y1 y2 y3 y4 y5
   unfold spec_Joined.l1
   repeat' first
   | (with_reducible exact ih0 _ _ _ _ _)
   | (with_reducible exact ih1 _ _ _ _ _ _)
   | (with_reducible exact ih2 _ _ _ _ _ _)
   | (with_reducible exact spec_TermsValid.mono _ _ _)
   | (with_reducible exact LeO.refl _)
   | (with_reducible exact LeO.none _)
   | (with_reducible refine LeO.ite ?_ ?_)
   | (with_reducible refine LeO.bind ?_ (fun _ => ?_))
   | exact ih0 _ _ _ _ _
   | exact ih1 _ _ _ _ _ _
   | exact ih2 _ _ _ _ _ _
   | exact spec_TermsValid.mono _ _ _
   | exact LeO.none _
   | refine LeO.ite ?_ ?_
   | refine LeO.bind ?_ (fun _ => ?_)
theorem spec_Joined.mono : ∀ a0 a1 a2 a3 k, LeO (spec_Joined.f k a0 a1 a2 a3) (spec_Joined.f (k + 1) a0 a1 a2 a3) := by
 intro a0 a1 a2 a3 k
 obtain ⟨ih0, ih1, ih2⟩ := spec_Joined.mono_l k
 unfold spec_Joined.f
 repeat' first
   | (with_reducible exact ih0 _ _ _ _ _)
   | (with_reducible exact ih1 _ _ _ _ _ _)
   | (with_reducible exact ih2 _ _ _ _ _ _)
   | (with_reducible exact spec_TermsValid.mono _ _ _)
   | (with_reducible exact LeO.refl _)
   | (with_reducible exact LeO.none _)
   | (with_reducible refine LeO.ite ?_ ?_)
   | (with_reducible refine LeO.bind ?_ (fun _ => ?_))
   | exact ih0 _ _ _ _ _
   | exact ih1 _ _ _ _ _ _
   | exact ih2 _ _ _ _ _ _
   | exact spec_TermsValid.mono _ _ _
   | exact LeO.none _
   | refine LeO.ite ?_ ?_
   | refine LeO.bind ?_ (fun _ => ?_)
set_option maxHeartbeats 8000000 in
set_option maxRecDepth 100000 in
theorem spec_Joined.calls (k : Nat) (a0 : Int) (A1 : Option Addr) (c1 : Nat) (l1 : List (S73)) (A2 : Option Addr) (c2 : Nat) (l2 : List (S73)) (a3 : Int) (r : List (S73)) (w : World) (hr1 : Kd.C k73 w A1 l1.length l1) (hc1 : l1.length ≤ c1) (hr2 : Kd.C k73 w A2 l2.length l2) (hc2 : l2.length ≤ c2) (h : spec_Joined.f k a0 l1 l2 a3 = some r) :
  Calls Try.prog 27 #[.int .i64 a0, .slice A1 l1.length c1, .slice A2 l2.length c2, .int .i64 a3] w fun e w' => ∃ v0_ : Value, e = .returned (v0_) ∧ Kd.R k73 73 w' w.heap.size (fun _ => True) v0_ r ∧ Below w.heap.size w w' := by
 have hu73 := Try.underlying73
 have HR1 := Aside0.mk hr1
 have HC1 := Aside0.mk hc1
 clear hr1 hc1
 have HR2 := Aside0.mk hr2
 have HC2 := Aside0.mk hc2
 clear hr2 hc2
 have HB := Aside0.mk (Below.refl w.heap.size w)
 have H : ((spec_TermsValid.f k l1 a3).bind fun t394 => (if t394 = true then ((spec_TermsValid.f k l2 a3).bind fun t395 => (spec_Joined.j0 k a0 l1 l2 a3 (!t395))) else (spec_Joined.j0 k a0 l1 l2 a3 true))) = some r := h
 clear h
 have HC5 := Aside0.mk H
 clear H
 go_enter Try.func27, Try.ntmps27
 go_upto_region 1 with (fail)
 go_cut [21] (fun v21 wc => ∃ (kq : Nat) (x21_4 : Bool), v21 = .bool x21_4 ∧ Aside0 (spec_Joined.j0 kq a0 l1 l2 a3 x21_4 = some r) ∧ Aside0 (kq ≤ k) ∧ Aside0 (Below w.heap.size w wc))
 case first =>
  have H := HC5.out
  clear HC5
  replace H := Option.bind_eq_some_iff.mp H
  obtain ⟨t394, A60, H⟩ := H
  replace H : (if t394 = true then ((spec_TermsValid.f k l2 a3).bind fun t395 => (spec_Joined.j0 k a0 l1 l2 a3 (!t395))) else (spec_Joined.j0 k a0 l1 l2 a3 true)) = some r := H
  have A6 := Aside0.mk A60
  clear A60
  by_cases c7 : t394 = true
  ·subst c7
   have H1 : ((spec_TermsValid.f k l2 a3).bind fun t395 => (spec_Joined.j0 k a0 l1 l2 a3 (!t395))) = some r := by rw [if_pos rfl] at H; exact H
   clear H
   have H := H1
   clear H1
   replace H := Option.bind_eq_some_iff.mp H
   obtain ⟨t395, A80, H⟩ := H
   replace H : (spec_Joined.j0 k a0 l1 l2 a3 (!t395)) = some r := H
   have A8 := Aside0.mk A80
   clear A80
   have H' := Aside0.mk H
   clear H
   go_wp2_with (first | ((with_reducible refine gate_callee (f := 24) rfl ?_); refine goesL_ (some 14) rfl rfl Try.func24 (by kernel_rfl) rfl #[.slice A1 l1.length c1, .int .i64 a3] rfl (by (try simp only [List.map_toArray, List.map_cons, List.map_nil]); first | done | rfl | (simp only [List.length_drop, List.length_take]; rfl)) ?_; (with_reducible refine (spec_TermsValid.calls k _ _ l1 a3 true _ ?side1 ?side2 A6.out).mono ?_); (case side1 => repeat (first | exact (Kd.C_below HR1.out HB.out) | (with_reducible refine Kd.C_alloc ?_ _) | (with_reducible refine Kd.C_drewN ?_ _) | (with_reducible refine Kd.C_drew ?_))); (case side2 => exact HC1.out); rintro e w9 ⟨rfl, hb⟩; refine ⟨_, rfl, ?_⟩; have n0_ := Aside0.mk (below_step (by repeat (first | (with_reducible first | exact HB.out | apply bwA | apply bwN | apply bwD) | exact HB.out)) hb); clear HB; have HB := n0_; clear n0_; (try clear hb); (try clear hb2); (try clear hk); (try clear hi)) | (go_at_call 24; (with_reducible refine (spec_TermsValid.calls k _ _ l2 a3 t395 _ ?side1 ?side2 A8.out).mono ?_); (case side1 => repeat (first | exact (Kd.C_below HR2.out HB.out) | (with_reducible refine Kd.C_alloc ?_ _) | (with_reducible refine Kd.C_drewN ?_ _) | (with_reducible refine Kd.C_drew ?_))); (case side2 => exact HC2.out); rintro e w10 ⟨rfl, hb⟩; have n0_ := Aside0.mk (below_step (by repeat (first | (with_reducible first | exact HB.out | apply bwA | apply bwN | apply bwD) | exact HB.out)) hb); clear HB; have HB := n0_; clear n0_; (try clear hb); (try clear hb2); (try clear hk); (try clear hi)))
   go_meet
   case rel => exact ⟨_, (!t395), (by first | rfl | (simp; done) | (simp [*]; done)), H', ⟨by first | omega | exact Nat.le_refl _⟩, ⟨by repeat (first | (with_reducible first | exact HB.out | apply bwA | apply bwN | apply bwD) | exact HB.out)⟩⟩
  ·replace c7 := Bool.eq_false_iff.mpr c7
   subst c7
   have H1 : (spec_Joined.j0 k a0 l1 l2 a3 true) = some r := by rw [if_neg (show ¬ (false = true) by decide)] at H; exact H
   clear H
   have H := H1
   clear H1
   have H' := Aside0.mk H
   clear H
   go_wp2_with (first | ((with_reducible refine gate_callee (f := 24) rfl ?_); refine goesL_ (some 14) rfl rfl Try.func24 (by kernel_rfl) rfl #[.slice A1 l1.length c1, .int .i64 a3] rfl (by (try simp only [List.map_toArray, List.map_cons, List.map_nil]); first | done | rfl | (simp only [List.length_drop, List.length_take]; rfl)) ?_; (with_reducible refine (spec_TermsValid.calls k _ _ l1 a3 false _ ?side1 ?side2 A6.out).mono ?_); (case side1 => repeat (first | exact (Kd.C_below HR1.out HB.out) | (with_reducible refine Kd.C_alloc ?_ _) | (with_reducible refine Kd.C_drewN ?_ _) | (with_reducible refine Kd.C_drew ?_))); (case side2 => exact HC1.out); rintro e w11 ⟨rfl, hb⟩; refine ⟨_, rfl, ?_⟩; have n0_ := Aside0.mk (below_step (by repeat (first | (with_reducible first | exact HB.out | apply bwA | apply bwN | apply bwD) | exact HB.out)) hb); clear HB; have HB := n0_; clear n0_; (try clear hb); (try clear hb2); (try clear hk); (try clear hi)))
   go_meet
   case rel => exact ⟨_, (true), (by first | rfl | (simp; done) | (simp [*]; done)), H', ⟨by first | omega | exact Nat.le_refl _⟩, ⟨by repeat (first | (with_reducible first | exact HB.out | apply bwA | apply bwN | apply bwD) | exact HB.out)⟩⟩
 case rest =>
  clear HC5
  try clear c1
  try clear c2
  try clear p2
  try clear c7
  obtain ⟨kq, x21_4, rfl, HA, HJ4, HB⟩ := hcut
  cases kq with
  | zero => exact absurd HA.out (by simp [spec_Joined.j0])
  | succ kj4 =>
   have H := HA.out
   clear HA
   simp only [spec_Joined.j0] at H
   by_cases c12 : x21_4 = true
   ·subst c12
    have H1 : (some ([] : List (S73))) = some r := by rw [if_pos rfl] at H; exact H
    clear H
    have H := H1
    clear H1
    obtain rfl := Option.some.inj H
    go_wp2
    go_ret
    exact ⟨_, by first | rfl | (simp [errW_none, errW_some] <;> rfl) | (simp [*, errW_none, errW_some] <;> rfl), by first | exact Kd.R_nil _ _ _ _ _ | exact Kd.N_nil _ _ _ _ _ | exact Kd.V_nil _ _ _ _ _ | exact Kd.Q_nil _ _ _ _ _ | exact Kd.S_nil _ _ _ _ _, by repeat (first | (with_reducible first | exact HB.out | apply bwA | apply bwN | apply bwD) | exact HB.out)⟩
   ·replace c12 := Bool.eq_false_iff.mpr c12
    subst c12
    have H1 : (spec_Joined.l0 kj4 a0 l1 l2 a3 (([] : List (S73))) 0) = some r := by rw [if_neg (show ¬ (false = true) by decide)] at H; exact H
    clear H
    have H := H1
    clear H1
    obtain ⟨y396, hy396⟩ : ∃ y_ : List (S73), y_ = (([] : List (S73))) := ⟨_, rfl⟩
    replace H : (spec_Joined.l0 kj4 a0 l1 l2 a3 y396 0) = some r := by first | (rw [hy396]; with_reducible exact H) | (have H2_ := (Option.bind_some _ _).symm.trans H; rw [hy396]; with_reducible exact H2_) | (have H2_ := (Option.bind_some _ _).symm.trans H; with_reducible exact H2_) | with_reducible exact H | (rw [hy396]; exact H) | exact H
    have Ny396 := Aside0.mk hy396
    clear hy396
    have H' := Aside0.mk H
    clear H
    go_wp2_with (first | ((with_reducible refine gate_dst (N := 22) rfl ?_); refine Kd.R_lit k73 _ 73 ?hg (N := 22) ?hd (xs := ([] : List (S73))) (inner := []) (ok := fun _ => True) (okp := fun _ => True) ?hr ?hp (fun _ hk => hk) trivial (Below.refl _ _) (Nat.le_refl _) (by simp) ?_; (case hd => rfl); (case hg => rfl); (case hr => first | (go_simp; done) | (go_simp; rfl)); (case hp => exact (Reps.none _ _)); intro v397 w13 ho14 hb hg_ hnew_; clear hg_ hnew_; (first | rw [← Ny396.out] at ho14 | (simp only [Int.reduceToNat] at ho14; rw [← Ny396.out] at ho14)); have n0_ := Aside0.mk (Kd.R_lower ho14 (below_size (by repeat (first | (with_reducible first | exact HB.out | apply bwA | apply bwN | apply bwD) | exact HB.out)))); have n1_ := Aside0.mk (below_step (by repeat (first | (with_reducible first | exact HB.out | apply bwA | apply bwN | apply bwD) | exact HB.out)) hb); clear HB; have HO398 := n0_; have HB := n1_; clear n0_ n1_; clear hb ho14))
    go_loopg [9, 10] kj4 (fun kq v9 v10 w' => ∃ (x9_2 : List (S73)) (x10_2 : Int), v10 = .int .i64 x10_2 ∧ Aside0 (spec_Joined.l0 kq a0 l1 l2 a3 x9_2 x10_2 = some r) ∧ Aside0 (kq ≤ kj4) ∧ Aside0 (Kd.R k73 73 w' w.heap.size (fun _ => True) v9 x9_2) ∧ Aside0 (Below w.heap.size w w'))
    case atStart => exact ⟨(y396), (0), (by first | rfl | (simp; done) | (simp [*]; done)), H', ⟨Nat.le_refl _⟩, ⟨by (with_reducible repeat (first | apply Kd.R_alloc | apply Kd.R_drewN | apply Kd.R_drew)); exact HO398.out⟩, ⟨by repeat (first | (with_reducible first | exact HB.out | apply bwA | apply bwN | apply bwD) | exact HB.out)⟩⟩
    case round =>
     clear H'
     try clear c1
     try clear c2
     try clear p2
     try clear c7
     try clear c12
     try clear p2
     obtain ⟨x9_2, x10_2, rfl, HA, HK2, HO_9, HB⟩ := hrel
     cases gk with
     | zero => exact absurd HA.out (by simp [spec_Joined.l0])
     | succ k2 =>
      have H := HA.out
      clear HA
      simp only [spec_Joined.l0] at H
      by_cases c15 : x10_2 < (l1.length : Int)
      ·rw [if_pos c15] at H
       have c15b0 : decide (x10_2 < (l1.length : Int)) = true := decide_eq_true c15
       clear c15
       by_cases c16 : 0 ≤ x10_2
       ·rw [if_pos c16] at H
        have c16b0 : decide (0 ≤ x10_2) = true := decide_eq_true c16
        clear c16
        by_cases c17 : x9_2.length < 4398046511104
        ·rw [if_pos c17] at H
         have LMc17 := Aside0.mk c17
         clear c17
         obtain ⟨y400, hy400⟩ : ∃ y_ : List (S73), y_ = (x9_2 ++ [(⟨(rd_T73 l1 x10_2).f0, (rd_T73 l1 x10_2).f1, (rd_T73 l1 x10_2).f2, (rd_T73 l1 x10_2).f3⟩ : S73)]) := ⟨_, rfl⟩
         replace H : (spec_Joined.l0 k2 a0 l1 l2 a3 y400 (wrap64 (x10_2 + 1))) = some r := by first | (rw [hy400]; with_reducible exact H) | (have H2_ := (Option.bind_some _ _).symm.trans H; rw [hy400]; with_reducible exact H2_) | (have H2_ := (Option.bind_some _ _).symm.trans H; with_reducible exact H2_) | with_reducible exact H | (rw [hy400]; exact H) | exact H
         have Ny400 := Aside0.mk hy400
         clear hy400
         have H' := Aside0.mk H
         clear H
         have p399 : 0 ≤ (x10_2 : Int) := of_decide_eq_true (by first | (with_reducible assumption) | assumption)
         have q399 : x10_2 < (l1.length : Int) := of_decide_eq_true (by first | (with_reducible assumption) | assumption)
         obtain ⟨ad399, e399, hx399_0, hx399_1, hx399_2, hx399_3⟩ := at_T73 HR1.out x10_2 p399 q399
         cases e399
         try replace hx399_0 := (HB.out.cell (World.block_lt_of_cell? w _ hx399_0)).trans hx399_0
         try replace hx399_1 := (HB.out.cell (World.block_lt_of_cell? w _ hx399_1)).trans hx399_1
         try replace hx399_2 := (HB.out.cell (World.block_lt_of_cell? w _ hx399_2)).trans hx399_2
         try replace hx399_3 := (HB.out.cell (World.block_lt_of_cell? w _ hx399_3)).trans hx399_3
         replace p399 := eq_true p399
         replace q399 := eq_true q399
         go_wp2_with (first | ((with_reducible refine gate_builtin (b := .append) (xs := #[.tmp 29, .tmp 34]) rfl ?_); at_builtin; refine Kd.R_append k73 (w0 := w) w.heap.size rfl (.tmp 29) (.tmp 34) 27 73 (.agg #[(.int .i64 0), (.int .i64 0), (.int .i64 0), (.int .i64 0)]) 32 rfl Try.underlying27 info73 rfl (by decide) (by omega) u9 x9_2 (⟨(rd_T73 l1 x10_2).f0, (rd_T73 l1 x10_2).f1, (rd_T73 l1 x10_2).f2, (rd_T73 l1 x10_2).f3⟩ : S73) [.int .i64 ((rd_T73 l1 x10_2).f0), .int .i64 ((rd_T73 l1 x10_2).f1), .int .i64 ((rd_T73 l1 x10_2).f2), .int .i64 ((rd_T73 l1 x10_2).f3)] (fun _ => True) (fun _ => False) rfl rfl ?aP (fun _ hk => hk.elim) ?aF ?aO ?aB ?aS ?aL ?_; (case aP => exact k73_mkM _ _ _ (⟨(rd_T73 l1 x10_2).f0, (rd_T73 l1 x10_2).f1, (rd_T73 l1 x10_2).f2, (rd_T73 l1 x10_2).f3⟩ : S73)); (case aB => exact (by repeat (first | (with_reducible first | exact HB.out | apply bwA | apply bwN | apply bwD) | exact HB.out))); (case aF => exact (fun _ _ => trivial)); (case aO => exact (by (with_reducible repeat (first | apply Kd.R_alloc | apply Kd.R_drewN | apply Kd.R_drew)); exact HO_9.out)); (case aS => exact (below_size (by repeat (first | (with_reducible first | exact HB.out | apply bwA | apply bwN | apply bwD) | exact HB.out)))); (case aL => have := LMc17.out; omega); intro v401 w18 ho hb hg hat; rw [← Ny400.out] at ho; have n0_ := Aside0.mk (hb); have n1_ := Aside0.mk (ho); clear HB; clear HO_9; have HB := n0_; have HO402 := n1_; clear n0_ n1_; clear ho hb hg hat))
         go_roundg k2
         case measure => have := HJ4.out; have := HK2.out; omega
         case rel => exact ⟨(y400), (wrap64 (x10_2 + 1)), (by first | rfl | (simp; done) | (simp [*]; done)), H', ⟨by have := HJ4.out; have := HK2.out; omega⟩, ⟨by (with_reducible repeat (first | apply Kd.R_alloc | apply Kd.R_drewN | apply Kd.R_drew)); exact HO402.out⟩, ⟨by repeat (first | (with_reducible first | exact HB.out | apply bwA | apply bwN | apply bwD) | exact HB.out)⟩⟩
        ·rw [if_neg c17] at H
         exact absurd H (by simp)
       ·rw [if_neg c16] at H
        exact absurd H (by simp)
      ·rw [if_neg c15] at H
       have c15b0 : decide (x10_2 < (l1.length : Int)) = false := decide_eq_false c15
       clear c15
       have H' := Aside0.mk H
       clear H
       go_wp2
       go_loopg [9, 11] k2 (fun kq v9 v11 w' => ∃ (x9_3 : List (S73)) (x11_3 : Int), v11 = .int .i64 x11_3 ∧ Aside0 (spec_Joined.l1 kq a0 l1 l2 a3 x9_3 x11_3 = some r) ∧ Aside0 (kq ≤ k2) ∧ Aside0 (Kd.R k73 73 w' w.heap.size (fun _ => True) v9 x9_3) ∧ Aside0 (Below w.heap.size w w'))
       case atStart => exact ⟨(x9_2), (0), (by first | rfl | (simp; done) | (simp [*]; done)), H', ⟨Nat.le_refl _⟩, ⟨by (with_reducible repeat (first | apply Kd.R_alloc | apply Kd.R_drewN | apply Kd.R_drew)); exact HO_9.out⟩, ⟨by repeat (first | (with_reducible first | exact HB.out | apply bwA | apply bwN | apply bwD) | exact HB.out)⟩⟩
       case round =>
        clear H'
        try clear c1
        try clear c2
        try clear p2
        try clear p3
        try clear q3
        try clear hx3
        try clear p6
        try clear c7
        try clear c12
        try clear c15
        try clear c15b0
        try clear c16
        try clear c16b0
        try clear c17
        try clear hx399_0
        try clear hx399_1
        try clear hx399_2
        try clear hx399_3
        try clear p2
        try clear p399
        try clear q399
        obtain ⟨x9_3, x11_3, rfl, HA, HK3, HO_9, HB⟩ := hrel
        cases gk with
        | zero => exact absurd HA.out (by simp [spec_Joined.l1])
        | succ k3 =>
         have H := HA.out
         clear HA
         simp only [spec_Joined.l1] at H
         by_cases c19 : x11_3 < (l2.length : Int)
         ·rw [if_pos c19] at H
          have c19b0 : decide (x11_3 < (l2.length : Int)) = true := decide_eq_true c19
          clear c19
          replace H := Option.bind_eq_some_iff.mp H
          obtain ⟨t403, A200, H⟩ := H
          replace H : (if t403 = true then (if x9_3.length < 4398046511104 then ((some (x9_3 ++ [(⟨a0, 0, wrap64 ((l1.length : Int) - 1), wrap64 ((x9_3.length : Int) - 1)⟩ : S73)] : List (S73))).bind fun y404 => (if a0 < 2 then (some ([] : List (S73))) else ((spec_TermsValid.f k3 y404 a3).bind fun t407 => (if t407 = true then (some y404) else (some ([] : List (S73))))))) else (none)) else (if 0 ≤ x11_3 then ((spec_l1Moved.f ((rd_T73 l2 x11_3).f0) ((rd_T73 l2 x11_3).f1) ((rd_T73 l2 x11_3).f2) ((rd_T73 l2 x11_3).f3) (l1.length : Int)).bind fun bt409 => (if x9_3.length < 4398046511104 then (spec_Joined.l1 k3 a0 l1 l2 a3 (x9_3 ++ [(⟨bt409.1, bt409.2.1, bt409.2.2.1, bt409.2.2.2⟩ : S73)]) (wrap64 (x11_3 + 1))) else (none))) else (none))) = some r := H
          have A20 := Aside0.mk A200
          clear A200
          by_cases c21 : t403 = true
          ·subst c21
           have H1 : (if x9_3.length < 4398046511104 then ((some (x9_3 ++ [(⟨a0, 0, wrap64 ((l1.length : Int) - 1), wrap64 ((x9_3.length : Int) - 1)⟩ : S73)] : List (S73))).bind fun y404 => (if a0 < 2 then (some ([] : List (S73))) else ((spec_TermsValid.f k3 y404 a3).bind fun t407 => (if t407 = true then (some y404) else (some ([] : List (S73))))))) else (none)) = some r := by rw [if_pos rfl] at H; exact H
           clear H
           have H := H1
           clear H1
           by_cases c22 : x9_3.length < 4398046511104
           ·rw [if_pos c22] at H
            have LMc22 := Aside0.mk c22
            clear c22
            obtain ⟨y404, hy404⟩ : ∃ y_ : List (S73), y_ = (x9_3 ++ [(⟨a0, 0, wrap64 ((l1.length : Int) - 1), wrap64 ((x9_3.length : Int) - 1)⟩ : S73)]) := ⟨_, rfl⟩
            replace H : (if a0 < 2 then (some ([] : List (S73))) else ((spec_TermsValid.f k3 y404 a3).bind fun t407 => (if t407 = true then (some y404) else (some ([] : List (S73)))))) = some r := by first | (rw [hy404]; with_reducible exact H) | (have H2_ := (Option.bind_some _ _).symm.trans H; rw [hy404]; with_reducible exact H2_) | (have H2_ := (Option.bind_some _ _).symm.trans H; with_reducible exact H2_) | with_reducible exact H | (rw [hy404]; exact H) | exact H
            have Ny404 := Aside0.mk hy404
            clear hy404
            by_cases c23 : a0 < 2
            ·rw [if_pos c23] at H
             have c23b0 : decide (a0 < 2) = true := decide_eq_true c23
             clear c23
             obtain rfl := Option.some.inj H
             go_wp2_with (first | (go_at_call 70; (with_reducible refine (spec_l1One.calls a0 true _ A20.out).mono ?_); rintro e w' ⟨rfl, ⟨nd, rfl⟩⟩; obtain ⟨Ao24, co24, eo24⟩ := Kd.R_slice HO_9.out; subst eo24) | ((with_reducible refine gate_builtin (b := .append) (xs := #[.tmp 57, .tmp 66]) rfl ?_); at_builtin; refine Kd.R_append k73 (w0 := w) w.heap.size rfl (.tmp 57) (.tmp 66) 27 73 (.agg #[(.int .i64 0), (.int .i64 0), (.int .i64 0), (.int .i64 0)]) 32 rfl Try.underlying27 info73 rfl (by decide) (by omega) (.slice Ao24 x9_3.length co24) x9_3 (⟨a0, 0, wrap64 ((l1.length : Int) - 1), wrap64 ((x9_3.length : Int) - 1)⟩ : S73) [.int .i64 a0, .int .i64 0, .int .i64 (wrap64 ((l1.length : Int) - 1)), .int .i64 (wrap64 ((x9_3.length : Int) - 1))] (fun _ => True) (fun _ => False) rfl rfl ?aP (fun _ hk => hk.elim) ?aF ?aO ?aB ?aS ?aL ?_; (case aP => exact k73_mkM _ _ _ (⟨a0, 0, wrap64 ((l1.length : Int) - 1), wrap64 ((x9_3.length : Int) - 1)⟩ : S73)); (case aB => exact (by repeat (first | (with_reducible first | exact HB.out | apply bwA | apply bwN | apply bwD) | exact HB.out))); (case aF => exact (fun _ _ => trivial)); (case aO => exact (by (with_reducible repeat (first | apply Kd.R_alloc | apply Kd.R_drewN | apply Kd.R_drew)); exact HO_9.out)); (case aS => exact (below_size (by repeat (first | (with_reducible first | exact HB.out | apply bwA | apply bwN | apply bwD) | exact HB.out)))); (case aL => have := LMc22.out; omega); intro v405 w25 ho hb hg hat; rw [← Ny404.out] at ho; have n0_ := Aside0.mk (hb); have n1_ := Aside0.mk (ho); clear HB; clear HO_9; have HB := n0_; have HO406 := n1_; clear n0_ n1_; clear ho hb hg hat))
             go_ret
             exact ⟨_, by first | rfl | (simp [errW_none, errW_some] <;> rfl) | (simp [*, errW_none, errW_some] <;> rfl), by first | exact Kd.R_nil _ _ _ _ _ | exact Kd.N_nil _ _ _ _ _ | exact Kd.V_nil _ _ _ _ _ | exact Kd.Q_nil _ _ _ _ _ | exact Kd.S_nil _ _ _ _ _, by repeat (first | (with_reducible first | exact HB.out | apply bwA | apply bwN | apply bwD) | exact HB.out)⟩
            ·rw [if_neg c23] at H
             have c23b0 : decide (a0 < 2) = false := decide_eq_false c23
             clear c23
             replace H := Option.bind_eq_some_iff.mp H
             obtain ⟨t407, A260, H⟩ := H
             replace H : (if t407 = true then (some y404) else (some ([] : List (S73)))) = some r := H
             have A26 := Aside0.mk A260
             clear A260
             by_cases c27 : t407 = true
             ·subst c27
              have H1 : (some y404) = some r := by rw [if_pos rfl] at H; exact H
              clear H
              have H := H1
              clear H1
              obtain rfl := Option.some.inj H
              go_wp2_with (first | (go_at_call 70; (with_reducible refine (spec_l1One.calls a0 true _ A20.out).mono ?_); rintro e w' ⟨rfl, ⟨nd, rfl⟩⟩; obtain ⟨Ao28, co28, eo28⟩ := Kd.R_slice HO_9.out; subst eo28) | ((with_reducible refine gate_builtin (b := .append) (xs := #[.tmp 57, .tmp 66]) rfl ?_); at_builtin; refine Kd.R_append k73 (w0 := w) w.heap.size rfl (.tmp 57) (.tmp 66) 27 73 (.agg #[(.int .i64 0), (.int .i64 0), (.int .i64 0), (.int .i64 0)]) 32 rfl Try.underlying27 info73 rfl (by decide) (by omega) (.slice Ao28 x9_3.length co28) x9_3 (⟨a0, 0, wrap64 ((l1.length : Int) - 1), wrap64 ((x9_3.length : Int) - 1)⟩ : S73) [.int .i64 a0, .int .i64 0, .int .i64 (wrap64 ((l1.length : Int) - 1)), .int .i64 (wrap64 ((x9_3.length : Int) - 1))] (fun _ => True) (fun _ => False) rfl rfl ?aP (fun _ hk => hk.elim) ?aF ?aO ?aB ?aS ?aL ?_; (case aP => exact k73_mkM _ _ _ (⟨a0, 0, wrap64 ((l1.length : Int) - 1), wrap64 ((x9_3.length : Int) - 1)⟩ : S73)); (case aB => exact (by repeat (first | (with_reducible first | exact HB.out | apply bwA | apply bwN | apply bwD) | exact HB.out))); (case aF => exact (fun _ _ => trivial)); (case aO => exact (by (with_reducible repeat (first | apply Kd.R_alloc | apply Kd.R_drewN | apply Kd.R_drew)); exact HO_9.out)); (case aS => exact (below_size (by repeat (first | (with_reducible first | exact HB.out | apply bwA | apply bwN | apply bwD) | exact HB.out)))); (case aL => have := LMc22.out; omega); intro v405 w29 ho hb hg hat; rw [← Ny404.out] at ho; have n0_ := Aside0.mk (hb); have n1_ := Aside0.mk (ho); clear HB; clear HO_9; have HB := n0_; have HO406 := n1_; clear n0_ n1_; clear ho hb hg hat; obtain ⟨Ao30, co30, eo30⟩ := Kd.R_slice HO406.out; subst eo30) | (go_at_call 24; (with_reducible refine (spec_TermsValid.calls k3 _ _ y404 a3 true _ ?side1 ?side2 A26.out).mono ?_); (case side1 => repeat (first | exact (Kd.R_reads' HO406.out).2.2 | (with_reducible refine Kd.C_alloc ?_ _) | (with_reducible refine Kd.C_drewN ?_ _) | (with_reducible refine Kd.C_drew ?_))); (case side2 => exact (Kd.R_reads' HO406.out).2.1); rintro e w31 ⟨rfl, hb⟩; have n0_ := Aside0.mk (Kd.R_below (by (with_reducible repeat (first | apply Kd.R_alloc | apply Kd.R_drewN | apply Kd.R_drew)); exact HO406.out) hb); have n1_ := Aside0.mk (below_step (by repeat (first | (with_reducible first | exact HB.out | apply bwA | apply bwN | apply bwD) | exact HB.out)) hb); clear HO406; clear HB; have HO406 := n0_; have HB := n1_; clear n0_ n1_; (try clear hb); (try clear hb2); (try clear hk); (try clear hi)))
              go_ret
              exact ⟨_, by first | rfl | (simp [errW_none, errW_some] <;> rfl) | (simp [*, errW_none, errW_some] <;> rfl), by (with_reducible repeat (first | apply Kd.R_alloc | apply Kd.R_drewN | apply Kd.R_drew)); exact HO406.out, by repeat (first | (with_reducible first | exact HB.out | apply bwA | apply bwN | apply bwD) | exact HB.out)⟩
             ·replace c27 := Bool.eq_false_iff.mpr c27
              subst c27
              have H1 : (some ([] : List (S73))) = some r := by rw [if_neg (show ¬ (false = true) by decide)] at H; exact H
              clear H
              have H := H1
              clear H1
              obtain rfl := Option.some.inj H
              go_wp2_with (first | (go_at_call 70; (with_reducible refine (spec_l1One.calls a0 true _ A20.out).mono ?_); rintro e w' ⟨rfl, ⟨nd, rfl⟩⟩; obtain ⟨Ao32, co32, eo32⟩ := Kd.R_slice HO_9.out; subst eo32) | ((with_reducible refine gate_builtin (b := .append) (xs := #[.tmp 57, .tmp 66]) rfl ?_); at_builtin; refine Kd.R_append k73 (w0 := w) w.heap.size rfl (.tmp 57) (.tmp 66) 27 73 (.agg #[(.int .i64 0), (.int .i64 0), (.int .i64 0), (.int .i64 0)]) 32 rfl Try.underlying27 info73 rfl (by decide) (by omega) (.slice Ao32 x9_3.length co32) x9_3 (⟨a0, 0, wrap64 ((l1.length : Int) - 1), wrap64 ((x9_3.length : Int) - 1)⟩ : S73) [.int .i64 a0, .int .i64 0, .int .i64 (wrap64 ((l1.length : Int) - 1)), .int .i64 (wrap64 ((x9_3.length : Int) - 1))] (fun _ => True) (fun _ => False) rfl rfl ?aP (fun _ hk => hk.elim) ?aF ?aO ?aB ?aS ?aL ?_; (case aP => exact k73_mkM _ _ _ (⟨a0, 0, wrap64 ((l1.length : Int) - 1), wrap64 ((x9_3.length : Int) - 1)⟩ : S73)); (case aB => exact (by repeat (first | (with_reducible first | exact HB.out | apply bwA | apply bwN | apply bwD) | exact HB.out))); (case aF => exact (fun _ _ => trivial)); (case aO => exact (by (with_reducible repeat (first | apply Kd.R_alloc | apply Kd.R_drewN | apply Kd.R_drew)); exact HO_9.out)); (case aS => exact (below_size (by repeat (first | (with_reducible first | exact HB.out | apply bwA | apply bwN | apply bwD) | exact HB.out)))); (case aL => have := LMc22.out; omega); intro v405 w33 ho hb hg hat; rw [← Ny404.out] at ho; have n0_ := Aside0.mk (hb); have n1_ := Aside0.mk (ho); clear HB; clear HO_9; have HB := n0_; have HO406 := n1_; clear n0_ n1_; clear ho hb hg hat; obtain ⟨Ao34, co34, eo34⟩ := Kd.R_slice HO406.out; subst eo34) | (go_at_call 24; (with_reducible refine (spec_TermsValid.calls k3 _ _ y404 a3 false _ ?side1 ?side2 A26.out).mono ?_); (case side1 => repeat (first | exact (Kd.R_reads' HO406.out).2.2 | (with_reducible refine Kd.C_alloc ?_ _) | (with_reducible refine Kd.C_drewN ?_ _) | (with_reducible refine Kd.C_drew ?_))); (case side2 => exact (Kd.R_reads' HO406.out).2.1); rintro e w35 ⟨rfl, hb⟩; have n0_ := Aside0.mk (Kd.R_below (by (with_reducible repeat (first | apply Kd.R_alloc | apply Kd.R_drewN | apply Kd.R_drew)); exact HO406.out) hb); have n1_ := Aside0.mk (below_step (by repeat (first | (with_reducible first | exact HB.out | apply bwA | apply bwN | apply bwD) | exact HB.out)) hb); clear HO406; clear HB; have HO406 := n0_; have HB := n1_; clear n0_ n1_; (try clear hb); (try clear hb2); (try clear hk); (try clear hi)))
              go_ret
              exact ⟨_, by first | rfl | (simp [errW_none, errW_some] <;> rfl) | (simp [*, errW_none, errW_some] <;> rfl), by first | exact Kd.R_nil _ _ _ _ _ | exact Kd.N_nil _ _ _ _ _ | exact Kd.V_nil _ _ _ _ _ | exact Kd.Q_nil _ _ _ _ _ | exact Kd.S_nil _ _ _ _ _, by repeat (first | (with_reducible first | exact HB.out | apply bwA | apply bwN | apply bwD) | exact HB.out)⟩
           ·rw [if_neg c22] at H
            exact absurd H (by simp)
          ·replace c21 := Bool.eq_false_iff.mpr c21
           subst c21
           have H1 : (if 0 ≤ x11_3 then ((spec_l1Moved.f ((rd_T73 l2 x11_3).f0) ((rd_T73 l2 x11_3).f1) ((rd_T73 l2 x11_3).f2) ((rd_T73 l2 x11_3).f3) (l1.length : Int)).bind fun bt409 => (if x9_3.length < 4398046511104 then (spec_Joined.l1 k3 a0 l1 l2 a3 (x9_3 ++ [(⟨bt409.1, bt409.2.1, bt409.2.2.1, bt409.2.2.2⟩ : S73)]) (wrap64 (x11_3 + 1))) else (none))) else (none)) = some r := by rw [if_neg (show ¬ (false = true) by decide)] at H; exact H
           clear H
           have H := H1
           clear H1
           by_cases c36 : 0 ≤ x11_3
           ·rw [if_pos c36] at H
            have c36b0 : decide (0 ≤ x11_3) = true := decide_eq_true c36
            clear c36
            replace H := Option.bind_eq_some_iff.mp H
            obtain ⟨⟨t409, t410, t411, t412⟩, A370, H⟩ := H
            replace H : (if x9_3.length < 4398046511104 then (spec_Joined.l1 k3 a0 l1 l2 a3 (x9_3 ++ [(⟨t409, t410, t411, t412⟩ : S73)]) (wrap64 (x11_3 + 1))) else (none)) = some r := H
            have A37 := Aside0.mk A370
            clear A370
            by_cases c38 : x9_3.length < 4398046511104
            ·rw [if_pos c38] at H
             have LMc38 := Aside0.mk c38
             clear c38
             obtain ⟨y413, hy413⟩ : ∃ y_ : List (S73), y_ = (x9_3 ++ [(⟨t409, t410, t411, t412⟩ : S73)]) := ⟨_, rfl⟩
             replace H : (spec_Joined.l1 k3 a0 l1 l2 a3 y413 (wrap64 (x11_3 + 1))) = some r := by first | (rw [hy413]; with_reducible exact H) | (have H2_ := (Option.bind_some _ _).symm.trans H; rw [hy413]; with_reducible exact H2_) | (have H2_ := (Option.bind_some _ _).symm.trans H; with_reducible exact H2_) | with_reducible exact H | (rw [hy413]; exact H) | exact H
             have Ny413 := Aside0.mk hy413
             clear hy413
             have H' := Aside0.mk H
             clear H
             go_wp2_with (first | (go_at_call 70; (with_reducible refine (spec_l1One.calls a0 false _ A20.out).mono ?_); rintro e w' ⟨rfl, ⟨nd, rfl⟩⟩; have p408 : 0 ≤ (x11_3 : Int) := of_decide_eq_true (by first | (with_reducible assumption) | assumption); have q408 : x11_3 < (l2.length : Int) := of_decide_eq_true (by first | (with_reducible assumption) | assumption); obtain ⟨ad408, e408, hx408_0, hx408_1, hx408_2, hx408_3⟩ := at_T73 HR2.out x11_3 p408 q408; cases e408; replace hx408_0 := (HB.out.cell (World.block_lt_of_cell? w _ hx408_0)).trans hx408_0; replace hx408_1 := (HB.out.cell (World.block_lt_of_cell? w _ hx408_1)).trans hx408_1; replace hx408_2 := (HB.out.cell (World.block_lt_of_cell? w _ hx408_2)).trans hx408_2; replace hx408_3 := (HB.out.cell (World.block_lt_of_cell? w _ hx408_3)).trans hx408_3; replace p408 := eq_true p408; replace q408 := eq_true q408) | ((with_reducible refine gate_callee (f := 71) rfl ?_); refine goesL_ (some 54) rfl rfl Try.func71 (by kernel_rfl) rfl #[.agg #[.int .i64 ((rd_T73 l2 x11_3).f0), .int .i64 ((rd_T73 l2 x11_3).f1), .int .i64 ((rd_T73 l2 x11_3).f2), .int .i64 ((rd_T73 l2 x11_3).f3)], .int .i64 (l1.length : Int)] rfl (by (try simp only [List.map_toArray, List.map_cons, List.map_nil]); first | done | rfl | (simp only [List.length_drop, List.length_take]; rfl)) ?_; (with_reducible refine (spec_l1Moved.calls ((rd_T73 l2 x11_3).f0) ((rd_T73 l2 x11_3).f1) ((rd_T73 l2 x11_3).f2) ((rd_T73 l2 x11_3).f3) (l1.length : Int) t409 t410 t411 t412 _ A37.out).mono ?_); rintro e w39 ⟨rfl, hb⟩; refine ⟨_, rfl, ?_⟩; have n0_ := Aside0.mk (Kd.R_below (by (with_reducible repeat (first | apply Kd.R_alloc | apply Kd.R_drewN | apply Kd.R_drew)); exact HO_9.out) hb); have n1_ := Aside0.mk (below_step (by repeat (first | (with_reducible first | exact HB.out | apply bwA | apply bwN | apply bwD) | exact HB.out)) hb); clear HO_9; clear HB; have HO_9 := n0_; have HB := n1_; clear n0_ n1_; (try clear hb); (try clear hb2); (try clear hk); (try clear hi)) | ((with_reducible refine gate_builtin (b := .append) (xs := #[.tmp 47, .tmp 55]) rfl ?_); at_builtin; refine Kd.R_append k73 (w0 := w) w.heap.size rfl (.tmp 47) (.tmp 55) 27 73 (.agg #[(.int .i64 0), (.int .i64 0), (.int .i64 0), (.int .i64 0)]) 32 rfl Try.underlying27 info73 rfl (by decide) (by omega) u9 x9_3 (⟨t409, t410, t411, t412⟩ : S73) [.int .i64 t409, .int .i64 t410, .int .i64 t411, .int .i64 t412] (fun _ => True) (fun _ => False) rfl rfl ?aP (fun _ hk => hk.elim) ?aF ?aO ?aB ?aS ?aL ?_; (case aP => exact k73_mkM _ _ _ (⟨t409, t410, t411, t412⟩ : S73)); (case aB => exact (by repeat (first | (with_reducible first | exact HB.out | apply bwA | apply bwN | apply bwD) | exact HB.out))); (case aF => exact (fun _ _ => trivial)); (case aO => exact (by (with_reducible repeat (first | apply Kd.R_alloc | apply Kd.R_drewN | apply Kd.R_drew)); exact HO_9.out)); (case aS => exact (below_size (by repeat (first | (with_reducible first | exact HB.out | apply bwA | apply bwN | apply bwD) | exact HB.out)))); (case aL => have := LMc38.out; omega); intro v414 w40 ho hb hg hat; rw [← Ny413.out] at ho; have n0_ := Aside0.mk (hb); have n1_ := Aside0.mk (ho); clear HB; clear HO_9; have HB := n0_; have HO415 := n1_; clear n0_ n1_; clear ho hb hg hat))
             go_roundg k3
             case measure => have := HJ4.out; have := HK2.out; have := HK3.out; omega
             case rel => exact ⟨(y413), (wrap64 (x11_3 + 1)), (by first | rfl | (simp; done) | (simp [*]; done)), H', ⟨by have := HJ4.out; have := HK2.out; have := HK3.out; omega⟩, ⟨by (with_reducible repeat (first | apply Kd.R_alloc | apply Kd.R_drewN | apply Kd.R_drew)); exact HO415.out⟩, ⟨by repeat (first | (with_reducible first | exact HB.out | apply bwA | apply bwN | apply bwD) | exact HB.out)⟩⟩
            ·rw [if_neg c38] at H
             exact absurd H (by simp)
           ·rw [if_neg c36] at H
            exact absurd H (by simp)
         ·rw [if_neg c19] at H
          have c19b0 : decide (x11_3 < (l2.length : Int)) = false := decide_eq_false c19
          clear c19
          by_cases c41 : x9_3.length < 4398046511104
          ·rw [if_pos c41] at H
           have LMc41 := Aside0.mk c41
           clear c41
           obtain ⟨y416, hy416⟩ : ∃ y_ : List (S73), y_ = (x9_3 ++ [(⟨a0, 0, wrap64 ((l1.length : Int) - 1), wrap64 ((x9_3.length : Int) - 1)⟩ : S73)]) := ⟨_, rfl⟩
           replace H : (if a0 < 2 then (some ([] : List (S73))) else ((spec_TermsValid.f k3 y416 a3).bind fun t419 => (if t419 = true then (some y416) else (some ([] : List (S73)))))) = some r := by first | (rw [hy416]; with_reducible exact H) | (have H2_ := (Option.bind_some _ _).symm.trans H; rw [hy416]; with_reducible exact H2_) | (have H2_ := (Option.bind_some _ _).symm.trans H; with_reducible exact H2_) | with_reducible exact H | (rw [hy416]; exact H) | exact H
           have Ny416 := Aside0.mk hy416
           clear hy416
           by_cases c42 : a0 < 2
           ·rw [if_pos c42] at H
            have c42b0 : decide (a0 < 2) = true := decide_eq_true c42
            clear c42
            obtain rfl := Option.some.inj H
            obtain ⟨Ao43, co43, eo43⟩ := Kd.R_slice HO_9.out
            subst eo43
            go_wp2_with (first | ((with_reducible refine gate_builtin (b := .append) (xs := #[.tmp 57, .tmp 66]) rfl ?_); at_builtin; refine Kd.R_append k73 (w0 := w) w.heap.size rfl (.tmp 57) (.tmp 66) 27 73 (.agg #[(.int .i64 0), (.int .i64 0), (.int .i64 0), (.int .i64 0)]) 32 rfl Try.underlying27 info73 rfl (by decide) (by omega) (.slice Ao43 x9_3.length co43) x9_3 (⟨a0, 0, wrap64 ((l1.length : Int) - 1), wrap64 ((x9_3.length : Int) - 1)⟩ : S73) [.int .i64 a0, .int .i64 0, .int .i64 (wrap64 ((l1.length : Int) - 1)), .int .i64 (wrap64 ((x9_3.length : Int) - 1))] (fun _ => True) (fun _ => False) rfl rfl ?aP (fun _ hk => hk.elim) ?aF ?aO ?aB ?aS ?aL ?_; (case aP => exact k73_mkM _ _ _ (⟨a0, 0, wrap64 ((l1.length : Int) - 1), wrap64 ((x9_3.length : Int) - 1)⟩ : S73)); (case aB => exact (by repeat (first | (with_reducible first | exact HB.out | apply bwA | apply bwN | apply bwD) | exact HB.out))); (case aF => exact (fun _ _ => trivial)); (case aO => exact (by (with_reducible repeat (first | apply Kd.R_alloc | apply Kd.R_drewN | apply Kd.R_drew)); exact HO_9.out)); (case aS => exact (below_size (by repeat (first | (with_reducible first | exact HB.out | apply bwA | apply bwN | apply bwD) | exact HB.out)))); (case aL => have := LMc41.out; omega); intro v417 w44 ho hb hg hat; rw [← Ny416.out] at ho; have n0_ := Aside0.mk (hb); have n1_ := Aside0.mk (ho); clear HB; clear HO_9; have HB := n0_; have HO418 := n1_; clear n0_ n1_; clear ho hb hg hat))
            go_ret
            exact ⟨_, by first | rfl | (simp [errW_none, errW_some] <;> rfl) | (simp [*, errW_none, errW_some] <;> rfl), by first | exact Kd.R_nil _ _ _ _ _ | exact Kd.N_nil _ _ _ _ _ | exact Kd.V_nil _ _ _ _ _ | exact Kd.Q_nil _ _ _ _ _ | exact Kd.S_nil _ _ _ _ _, by repeat (first | (with_reducible first | exact HB.out | apply bwA | apply bwN | apply bwD) | exact HB.out)⟩
           ·rw [if_neg c42] at H
            have c42b0 : decide (a0 < 2) = false := decide_eq_false c42
            clear c42
            replace H := Option.bind_eq_some_iff.mp H
            obtain ⟨t419, A450, H⟩ := H
            replace H : (if t419 = true then (some y416) else (some ([] : List (S73)))) = some r := H
            have A45 := Aside0.mk A450
            clear A450
            by_cases c46 : t419 = true
            ·subst c46
             have H1 : (some y416) = some r := by rw [if_pos rfl] at H; exact H
             clear H
             have H := H1
             clear H1
             obtain rfl := Option.some.inj H
             obtain ⟨Ao47, co47, eo47⟩ := Kd.R_slice HO_9.out
             subst eo47
             go_wp2_with (first | ((with_reducible refine gate_builtin (b := .append) (xs := #[.tmp 57, .tmp 66]) rfl ?_); at_builtin; refine Kd.R_append k73 (w0 := w) w.heap.size rfl (.tmp 57) (.tmp 66) 27 73 (.agg #[(.int .i64 0), (.int .i64 0), (.int .i64 0), (.int .i64 0)]) 32 rfl Try.underlying27 info73 rfl (by decide) (by omega) (.slice Ao47 x9_3.length co47) x9_3 (⟨a0, 0, wrap64 ((l1.length : Int) - 1), wrap64 ((x9_3.length : Int) - 1)⟩ : S73) [.int .i64 a0, .int .i64 0, .int .i64 (wrap64 ((l1.length : Int) - 1)), .int .i64 (wrap64 ((x9_3.length : Int) - 1))] (fun _ => True) (fun _ => False) rfl rfl ?aP (fun _ hk => hk.elim) ?aF ?aO ?aB ?aS ?aL ?_; (case aP => exact k73_mkM _ _ _ (⟨a0, 0, wrap64 ((l1.length : Int) - 1), wrap64 ((x9_3.length : Int) - 1)⟩ : S73)); (case aB => exact (by repeat (first | (with_reducible first | exact HB.out | apply bwA | apply bwN | apply bwD) | exact HB.out))); (case aF => exact (fun _ _ => trivial)); (case aO => exact (by (with_reducible repeat (first | apply Kd.R_alloc | apply Kd.R_drewN | apply Kd.R_drew)); exact HO_9.out)); (case aS => exact (below_size (by repeat (first | (with_reducible first | exact HB.out | apply bwA | apply bwN | apply bwD) | exact HB.out)))); (case aL => have := LMc41.out; omega); intro v417 w48 ho hb hg hat; rw [← Ny416.out] at ho; have n0_ := Aside0.mk (hb); have n1_ := Aside0.mk (ho); clear HB; clear HO_9; have HB := n0_; have HO418 := n1_; clear n0_ n1_; clear ho hb hg hat; obtain ⟨Ao49, co49, eo49⟩ := Kd.R_slice HO418.out; subst eo49) | (go_at_call 24; (with_reducible refine (spec_TermsValid.calls k3 _ _ y416 a3 true _ ?side1 ?side2 A45.out).mono ?_); (case side1 => repeat (first | exact (Kd.R_reads' HO418.out).2.2 | (with_reducible refine Kd.C_alloc ?_ _) | (with_reducible refine Kd.C_drewN ?_ _) | (with_reducible refine Kd.C_drew ?_))); (case side2 => exact (Kd.R_reads' HO418.out).2.1); rintro e w50 ⟨rfl, hb⟩; have n0_ := Aside0.mk (Kd.R_below (by (with_reducible repeat (first | apply Kd.R_alloc | apply Kd.R_drewN | apply Kd.R_drew)); exact HO418.out) hb); have n1_ := Aside0.mk (below_step (by repeat (first | (with_reducible first | exact HB.out | apply bwA | apply bwN | apply bwD) | exact HB.out)) hb); clear HO418; clear HB; have HO418 := n0_; have HB := n1_; clear n0_ n1_; (try clear hb); (try clear hb2); (try clear hk); (try clear hi)))
             go_ret
             exact ⟨_, by first | rfl | (simp [errW_none, errW_some] <;> rfl) | (simp [*, errW_none, errW_some] <;> rfl), by (with_reducible repeat (first | apply Kd.R_alloc | apply Kd.R_drewN | apply Kd.R_drew)); exact HO418.out, by repeat (first | (with_reducible first | exact HB.out | apply bwA | apply bwN | apply bwD) | exact HB.out)⟩
            ·replace c46 := Bool.eq_false_iff.mpr c46
             subst c46
             have H1 : (some ([] : List (S73))) = some r := by rw [if_neg (show ¬ (false = true) by decide)] at H; exact H
             clear H
             have H := H1
             clear H1
             obtain rfl := Option.some.inj H
             obtain ⟨Ao51, co51, eo51⟩ := Kd.R_slice HO_9.out
             subst eo51
             go_wp2_with (first | ((with_reducible refine gate_builtin (b := .append) (xs := #[.tmp 57, .tmp 66]) rfl ?_); at_builtin; refine Kd.R_append k73 (w0 := w) w.heap.size rfl (.tmp 57) (.tmp 66) 27 73 (.agg #[(.int .i64 0), (.int .i64 0), (.int .i64 0), (.int .i64 0)]) 32 rfl Try.underlying27 info73 rfl (by decide) (by omega) (.slice Ao51 x9_3.length co51) x9_3 (⟨a0, 0, wrap64 ((l1.length : Int) - 1), wrap64 ((x9_3.length : Int) - 1)⟩ : S73) [.int .i64 a0, .int .i64 0, .int .i64 (wrap64 ((l1.length : Int) - 1)), .int .i64 (wrap64 ((x9_3.length : Int) - 1))] (fun _ => True) (fun _ => False) rfl rfl ?aP (fun _ hk => hk.elim) ?aF ?aO ?aB ?aS ?aL ?_; (case aP => exact k73_mkM _ _ _ (⟨a0, 0, wrap64 ((l1.length : Int) - 1), wrap64 ((x9_3.length : Int) - 1)⟩ : S73)); (case aB => exact (by repeat (first | (with_reducible first | exact HB.out | apply bwA | apply bwN | apply bwD) | exact HB.out))); (case aF => exact (fun _ _ => trivial)); (case aO => exact (by (with_reducible repeat (first | apply Kd.R_alloc | apply Kd.R_drewN | apply Kd.R_drew)); exact HO_9.out)); (case aS => exact (below_size (by repeat (first | (with_reducible first | exact HB.out | apply bwA | apply bwN | apply bwD) | exact HB.out)))); (case aL => have := LMc41.out; omega); intro v417 w52 ho hb hg hat; rw [← Ny416.out] at ho; have n0_ := Aside0.mk (hb); have n1_ := Aside0.mk (ho); clear HB; clear HO_9; have HB := n0_; have HO418 := n1_; clear n0_ n1_; clear ho hb hg hat; obtain ⟨Ao53, co53, eo53⟩ := Kd.R_slice HO418.out; subst eo53) | (go_at_call 24; (with_reducible refine (spec_TermsValid.calls k3 _ _ y416 a3 false _ ?side1 ?side2 A45.out).mono ?_); (case side1 => repeat (first | exact (Kd.R_reads' HO418.out).2.2 | (with_reducible refine Kd.C_alloc ?_ _) | (with_reducible refine Kd.C_drewN ?_ _) | (with_reducible refine Kd.C_drew ?_))); (case side2 => exact (Kd.R_reads' HO418.out).2.1); rintro e w54 ⟨rfl, hb⟩; have n0_ := Aside0.mk (Kd.R_below (by (with_reducible repeat (first | apply Kd.R_alloc | apply Kd.R_drewN | apply Kd.R_drew)); exact HO418.out) hb); have n1_ := Aside0.mk (below_step (by repeat (first | (with_reducible first | exact HB.out | apply bwA | apply bwN | apply bwD) | exact HB.out)) hb); clear HO418; clear HB; have HO418 := n0_; have HB := n1_; clear n0_ n1_; (try clear hb); (try clear hb2); (try clear hk); (try clear hi)))
             go_ret
             exact ⟨_, by first | rfl | (simp [errW_none, errW_some] <;> rfl) | (simp [*, errW_none, errW_some] <;> rfl), by first | exact Kd.R_nil _ _ _ _ _ | exact Kd.N_nil _ _ _ _ _ | exact Kd.V_nil _ _ _ _ _ | exact Kd.Q_nil _ _ _ _ _ | exact Kd.S_nil _ _ _ _ _, by repeat (first | (with_reducible first | exact HB.out | apply bwA | apply bwN | apply bwD) | exact HB.out)⟩
          ·rw [if_neg c41] at H
           exact absurd H (by simp)

end Go.Proofs.Ytpfkgmcbogcmoaa.QFnJoined
