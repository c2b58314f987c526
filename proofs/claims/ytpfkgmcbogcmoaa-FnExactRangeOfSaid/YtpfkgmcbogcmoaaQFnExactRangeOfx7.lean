-- Written by a program of this session (mk.py). Lean checks it.
import Derived.Test.YtpfkgmcbogcmoaaQFnExactRangeOfx0
import Derived.Test.YtpfkgmcbogcmoaaQFnExactRangeOfx5
import Derived.Test.YtpfkgmcbogcmoaaQFnExactRangeOfx6
namespace Go.Proofs.Ytpfkgmcbogcmoaa.QFnExactRangeOf
open Go.RowKit Go.Proofs.YtpfkgmcbogcmoaaW.PrintWords Go.Proofs.YtpfkgmcbogcmoaaW.PrintLast Go.Proofs.YtpfkgmcbogcmoaaW.PrintMore
attribute [local go_sem] max2_int min2_int max_two min_two max_three min_three max_four min_four   -- for this text's walks alone
set_option linter.unusedVariables false
set_option linter.unusedSimpArgs false

/-! ### spec_RangeOf: function 31 -/
mutual
def spec_RangeOf.j0 : Nat → List (S73) → List Int → List Int → Bool → Option (Int × Int × Bool)
 | 0, _, _, _, _ => none
 | k + 1, x0, x1, x2, x35 => if x35 = true then (some (0, 0, false)) else (spec_RangeOf.l0 k x0 x1 x2 0)
def spec_RangeOf.l0 : Nat → List (S73) → List Int → List Int → Int → Option (Int × Int × Bool)
 | 0, _, _, _, _ => none
 | k + 1, x0, x1, x2, x9 => if x9 < (x1.length : Int) then (if 0 ≤ x9 then (if x9 < (x2.length : Int) then (if (rd x1 x9) > (rd x2 x9) then (some (0, 0, false)) else (spec_RangeOf.l0 k x0 x1 x2 (wrap64 (x9 + 1)))) else (none)) else (none)) else (spec_RangeOf.l1 k x0 x1 x2 (([] : List (List Int))) 0)
def spec_RangeOf.l1 : Nat → List (S73) → List Int → List Int → List (List Int) → Int → Option (Int × Int × Bool)
 | 0, _, _, _, _, _ => none
 | k + 1, x0, x1, x2, x10, x11 => if x11 < (x0.length : Int) then (if 0 ≤ x11 then (if ((rd_T73 x0 x11).f0) = 0 then (if x10.length < 5864062014805 then (spec_RangeOf.l1 k x0 x1 x2 (x10 ++ [(([(rd_T73 x0 x11).f1, (rd_T73 x0 x11).f1] : List Int))]) (wrap64 (x11 + 1))) else (none)) else (if ((rd_T73 x0 x11).f0) = 1 then (if 0 ≤ ((rd_T73 x0 x11).f1) then (if ((rd_T73 x0 x11).f1) < (x1.length : Int) then (if ((rd_T73 x0 x11).f1) < (x2.length : Int) then (if x10.length < 5864062014805 then (spec_RangeOf.l1 k x0 x1 x2 (x10 ++ [(([rd x1 ((rd_T73 x0 x11).f1), rd x2 ((rd_T73 x0 x11).f1)] : List Int))]) (wrap64 (x11 + 1))) else (none)) else (none)) else (none)) else (none)) else (if 0 ≤ ((rd_T73 x0 x11).f2) then (if ((rd_T73 x0 x11).f2) < (x10.length : Int) then (if 0 ≤ ((rd_T73 x0 x11).f3) then (if ((rd_T73 x0 x11).f3) < (x10.length : Int) then ((spec_l1Between.f k ((rd_T73 x0 x11).f0) (rd_L3 x10 ((rd_T73 x0 x11).f2)) (rd_L3 x10 ((rd_T73 x0 x11).f3))).bind fun t300 => (if x10.length < 5864062014805 then (spec_RangeOf.l1 k x0 x1 x2 (x10 ++ [t300]) (wrap64 (x11 + 1))) else (none))) else (none)) else (none)) else (none)) else (none)))) else (none)) else (if 0 ≤ (wrap64 ((x10.length : Int) - 1)) then (if (wrap64 ((x10.length : Int) - 1)) < (x10.length : Int) then (if 0 < ((rd_L3 x10 (wrap64 ((x10.length : Int) - 1))).length : Int) then (if 1 < ((rd_L3 x10 (wrap64 ((x10.length : Int) - 1))).length : Int) then (some (rd (rd_L3 x10 (wrap64 ((x10.length : Int) - 1))) 0, rd (rd_L3 x10 (wrap64 ((x10.length : Int) - 1))) 1, true)) else (none)) else (none)) else (none)) else (none))
end
def spec_RangeOf.f (k : Nat) (l0 : List (S73)) (l1 : List Int) (l2 : List Int) : Option (Int × Int × Bool) := if (l1.length : Int) = (l2.length : Int) then ((spec_TermsValid.f k l0 (l1.length : Int)).bind fun t271 => (if t271 = true then ((spec_l1State.f k l1).bind fun t272 => (if t272 = true then ((spec_l1State.f k l2).bind fun t273 => (spec_RangeOf.j0 k l0 l1 l2 (!t273))) else (spec_RangeOf.j0 k l0 l1 l2 true))) else (spec_RangeOf.j0 k l0 l1 l2 true))) else (spec_RangeOf.j0 k l0 l1 l2 true)
theorem spec_RangeOf.mono_l : ∀ k, (∀ y0 y1 y2 y3, LeO (spec_RangeOf.j0 k y0 y1 y2 y3) (spec_RangeOf.j0 (k + 1) y0 y1 y2 y3)) ∧ (∀ y0 y1 y2 y3, LeO (spec_RangeOf.l0 k y0 y1 y2 y3) (spec_RangeOf.l0 (k + 1) y0 y1 y2 y3)) ∧ (∀ y0 y1 y2 y3 y4, LeO (spec_RangeOf.l1 k y0 y1 y2 y3 y4) (spec_RangeOf.l1 (k + 1) y0 y1 y2 y3 y4))
 | 0 => ⟨fun _ _ _ _ r h => by simp [spec_RangeOf.j0] at h, fun _ _ _ _ r h => by simp [spec_RangeOf.l0] at h, fun _ _ _ _ _ r h => by simp [spec_RangeOf.l1] at h⟩
 | k + 1 => by
  obtain ⟨ih0, ih1, ih2⟩ := spec_RangeOf.mono_l k
  refine ⟨?_, ?_, ?_⟩
  ·intro y0 y1 y2 y3
   unfold spec_RangeOf.j0
   repeat' first
   | (with_reducible exact ih0 _ _ _ _)
   | (with_reducible exact ih1 _ _ _ _)
   | (with_reducible exact ih2 _ _ _ _ _)
   | (with_reducible exact spec_TermsValid.mono _ _ _)
   | (with_reducible exact spec_l1Between.mono _ _ _ _)
   | (with_reducible exact spec_l1State.mono _ _)
   | (with_reducible exact LeO.refl _)
   | (with_reducible exact LeO.none _)
   | (with_reducible refine LeO.ite ?_ ?_)
   | (with_reducible refine LeO.bind ?_ (fun _ => ?_))
   | exact ih0 _ _ _ _
   | exact ih1 _ _ _ _
   | exact ih2 _ _ _ _ _
   | exact spec_TermsValid.mono _ _ _
   | exact spec_l1Between.mono _ _ _ _
   | exact spec_l1State.mono _ _
   | exact LeO.none _
   | refine LeO.ite ?_ ?_
   | refine LeO.bind ?_ (fun _ => ?_)
  ·intro y0 y1 y2 y3
   unfold spec_RangeOf.l0
   repeat' first
   | (with_reducible exact ih0 _ _ _ _)
   | (with_reducible exact ih1 _ _ _ _)
   | (with_reducible exact ih2 _ _ _ _ _)
   | (with_reducible exact spec_TermsValid.mono _ _ _)
   | (with_reducible exact spec_l1Between.mono _ _ _ _)
   | (with_reducible exact spec_l1State.mono _ _)
   | (with_reducible exact LeO.refl _)
   | (with_reducible exact LeO.none _)
   | (with_reducible refine LeO.ite ?_ ?_)
   | (with_reducible refine LeO.bind ?_ (fun _ => ?_))
   | exact ih0 _ _ _ _
   | exact ih1 _ _ _ _
   | exact ih2 _ _ _ _ _
   | exact spec_TermsValid.mono _ _ _
   | exact spec_l1Between.mono _ _ _ _
   | exact spec_l1State.mono _ _
   | exact LeO.none _
   | refine LeO.ite ?_ ?_
   | refine LeO.bind ?_ (fun _ => ?_)
  ·intro y0 y1 y2 y3 y4
   unfold spec_RangeOf.l1
   repeat' first
   | (with_reducible exact ih0 _ _ _ _)
   | (with_reducible exact ih1 _ _ _ _)
   | (with_reducible exact ih2 _ _ _ _ _)
   | (with_reducible exact spec_TermsValid.mono _ _ _)
   | (with_reducible exact spec_l1Between.mono _ _ _ _)
   | (with_reducible exact spec_l1State.mono _ _)
   | (with_reducible exact LeO.refl _)
   | (with_reducible exact LeO.none _)
   | (with_reducible refine LeO.ite ?_ ?_)
   | (with_reducible refine LeO.bind ?_ (fun _ => ?_))
   | exact ih0 _ _ _ _
   | exact ih1 _ _ _ _
   | exact ih2 _ _ _ _ _
   | exact spec_TermsValid.mono _ _ _
   | exact spec_l1Between.mono _ _ _ _
   | exact spec_l1State.mono _ _
   | exact LeO.none _
   | refine LeO.ite ?_ ?_
   | refine LeO.bind ?_ (fun _ => ?_)
theorem spec_RangeOf.mono : ∀ a0 a1 a2 k, LeO (spec_RangeOf.f k a0 a1 a2) (spec_RangeOf.f (k + 1) a0 a1 a2) := by
 intro a0 a1 a2 k
 obtain ⟨ih0, ih1, ih2⟩ := spec_RangeOf.mono_l k
 unfold spec_RangeOf.f
 repeat' first
   | (with_reducible exact ih0 _ _ _ _)
   | (with_reducible exact ih1 _ _ _ _)
   | (with_reducible exact ih2 _ _ _ _ _)
   | (with_reducible exact spec_TermsValid.mono _ _ _)
   | (with_reducible exact spec_l1Between.mono _ _ _ _)
   | (with_reducible exact spec_l1State.mono _ _)
   | (with_reducible exact LeO.refl _)
   | (with_reducible exact LeO.none _)
   | (with_reducible refine LeO.ite ?_ ?_)
   | (with_reducible refine LeO.bind ?_ (fun _ => ?_))
   | exact ih0 _ _ _ _
   | exact ih1 _ _ _ _
   | exact ih2 _ _ _ _ _
   | exact spec_TermsValid.mono _ _ _
   | exact spec_l1Between.mono _ _ _ _
   | exact spec_l1State.mono _ _
   | exact LeO.none _
   | refine LeO.ite ?_ ?_
   | refine LeO.bind ?_ (fun _ => ?_)
def spec_RangeOf.T6 : Bool × List (List Nat × List Nat) := (true, [([], []), ([], []), ([0, 1], [0, 1]), ([2], [2]), ([], []), ([], []), ([4, 5], [4, 5]), ([6], [6]), ([3, 7], [3, 7])])
def spec_RangeOf.B6 : List Nat := [0, 0, 3, 7, 0, 0, 48, 112, 255]
theorem spec_RangeOf.tab6 : rtab .any (opsOf Try.f31 6) = spec_RangeOf.T6 := by kernel_rfl
theorem spec_RangeOf.bits6 : waitsOk spec_RangeOf.T6.2 spec_RangeOf.B6 = true := by kernel_rfl
def spec_RangeOf.T16 : Bool × List (List Nat × List Nat) := (true, [([], []), ([], []), ([], []), ([2], [2]), ([1, 3], [1, 3]), ([4], [4]), ([], []), ([], []), ([7], [7]), ([6, 8], [6, 8]), ([9], [9]), ([5, 10], [5, 10]), ([11], [11]), ([0, 12], [0, 12]), ([13, 13, 0, 1, 2, 3, 4, 5, 6, 7, 8, 9, 10, 11, 12, 13], [0, 13])])
def spec_RangeOf.B16 : List Nat := [0, 0, 0, 4, 14, 30, 0, 0, 128, 448, 960, 2046, 4094, 8191, 16383]
theorem spec_RangeOf.tab16 : rtab .any (opsOf Try.f31 16) = spec_RangeOf.T16 := by kernel_rfl
theorem spec_RangeOf.bits16 : waitsOk spec_RangeOf.T16.2 spec_RangeOf.B16 = true := by kernel_rfl
def spec_RangeOf.T17 : Bool × List (List Nat × List Nat) := (true, [([], []), ([], []), ([1], [1]), ([], []), ([], []), ([4], [4]), ([3, 5], [3, 5]), ([6], [6]), ([], []), ([], []), ([9], [9]), ([8, 10], [8, 10]), ([11], [11]), ([2, 7, 12], [2, 7, 12]), ([13], [13]), ([0, 14, 13], [0, 14]), ([15, 15, 0, 1, 2, 3, 4, 5, 6, 7, 8, 9, 10, 11, 12, 13, 14, 15], [0, 3, 8, 15])])
def spec_RangeOf.B17 : List Nat := [0, 0, 2, 0, 0, 16, 56, 120, 0, 0, 512, 1792, 3840, 8190, 16382, 32767, 65535]
theorem spec_RangeOf.tab17 : rtab .any (opsOf Try.f31 17) = spec_RangeOf.T17 := by kernel_rfl
theorem spec_RangeOf.bits17 : waitsOk spec_RangeOf.T17.2 spec_RangeOf.B17 = true := by kernel_rfl
def spec_RangeOf.T19 : Bool × List (List Nat × List Nat) := (true, [([], []), ([0], [0]), ([1], [1]), ([], []), ([3], [3]), ([4], [4]), ([2, 0, 1, 2], [2]), ([5, 6, 0, 1, 2, 3, 4, 5, 6], [5]), ([7, 0, 1, 2, 3, 4, 5, 6, 7], [])])
def spec_RangeOf.B19 : List Nat := [0, 1, 3, 0, 8, 24, 7, 127, 255]
theorem spec_RangeOf.tab19 : rtab .any (opsOf Try.f31 19) = spec_RangeOf.T19 := by kernel_rfl
theorem spec_RangeOf.bits19 : waitsOk spec_RangeOf.T19.2 spec_RangeOf.B19 = true := by kernel_rfl
set_option maxHeartbeats 8000000 in
set_option maxRecDepth 100000 in
theorem spec_RangeOf.calls (k : Nat) (A0 : Option Addr) (c0 : Nat) (l0 : List (S73)) (A1 : Option Addr) (c1 : Nat) (l1 : List Int) (A2 : Option Addr) (c2 : Nat) (l2 : List Int) (r1 : Int) (r2 : Int) (r3 : Bool) (w : World) (hr0 : Kd.C k73 w A0 l0.length l0) (hc0 : l0.length ≤ c0) (hr1 : Kd.C (Kd.int .i64) w A1 l1.length l1) (hc1 : l1.length ≤ c1) (hr2 : Kd.C (Kd.int .i64) w A2 l2.length l2) (hc2 : l2.length ≤ c2) (h : spec_RangeOf.f k l0 l1 l2 = some (r1, r2, r3)) :
  Calls Try.prog 31 #[.slice A0 l0.length c0, .slice A1 l1.length c1, .slice A2 l2.length c2] w fun e w' => e = .returned (.tuple #[.int .i64 r1, .int .i64 r2, .bool r3]) ∧ Below w.heap.size w w' := by
 have hu73 := Try.underlying73
 have HR0 := Aside0.mk hr0
 have HC0 := Aside0.mk hc0
 clear hr0 hc0
 have HR1 := Aside0.mk hr1
 have HC1 := Aside0.mk hc1
 clear hr1 hc1
 have HR2 := Aside0.mk hr2
 have HC2 := Aside0.mk hc2
 clear hr2 hc2
 have HB := Aside0.mk (Below.refl w.heap.size w)
 have H : (if (l1.length : Int) = (l2.length : Int) then ((spec_TermsValid.f k l0 (l1.length : Int)).bind fun t271 => (if t271 = true then ((spec_l1State.f k l1).bind fun t272 => (if t272 = true then ((spec_l1State.f k l2).bind fun t273 => (spec_RangeOf.j0 k l0 l1 l2 (!t273))) else (spec_RangeOf.j0 k l0 l1 l2 true))) else (spec_RangeOf.j0 k l0 l1 l2 true))) else (spec_RangeOf.j0 k l0 l1 l2 true)) = some (r1, r2, r3) := h
 clear h
 have HC4 := Aside0.mk H
 clear H
 go_enter Try.func31, Try.ntmps31
 go_upto_region 1 with (fail)
 go_cut [35] (fun v35 wc => ∃ (kq : Nat) (x35_3 : Bool), v35 = .bool x35_3 ∧ Aside0 (spec_RangeOf.j0 kq l0 l1 l2 x35_3 = some (r1, r2, r3)) ∧ Aside0 (kq ≤ k) ∧ Aside0 (Below w.heap.size w wc))
 case first =>
  have H := HC4.out
  clear HC4
  by_cases c5 : (l1.length : Int) = (l2.length : Int)
  ·rw [if_pos c5] at H
   have c5b0 : ((l1.length : Int) == (l2.length : Int)) = true := beq_iff_eq.mpr c5
   have c5b1 : ((l1.length : Int) != (l2.length : Int)) = false := bne_eq_false_iff_eq.mpr c5
   have c5b2 : (l1.length == l2.length) = true := by first | simpa using c5 | (simp at c5 ⊢; omega)
   clear c5
   (first | rw [c5b0] | (simp only [i64_w, i32_w]; rw [c5b0]) | skip)
   replace H := Option.bind_eq_some_iff.mp H
   obtain ⟨t271, A60, H⟩ := H
   replace H : (if t271 = true then ((spec_l1State.f k l1).bind fun t272 => (if t272 = true then ((spec_l1State.f k l2).bind fun t273 => (spec_RangeOf.j0 k l0 l1 l2 (!t273))) else (spec_RangeOf.j0 k l0 l1 l2 true))) else (spec_RangeOf.j0 k l0 l1 l2 true)) = some (r1, r2, r3) := H
   have A6 := Aside0.mk A60
   clear A60
   by_cases c7 : t271 = true
   ·subst c7
    have H1 : ((spec_l1State.f k l1).bind fun t272 => (if t272 = true then ((spec_l1State.f k l2).bind fun t273 => (spec_RangeOf.j0 k l0 l1 l2 (!t273))) else (spec_RangeOf.j0 k l0 l1 l2 true))) = some (r1, r2, r3) := by rw [if_pos rfl] at H; exact H
    clear H
    have H := H1
    clear H1
    replace H := Option.bind_eq_some_iff.mp H
    obtain ⟨t272, A80, H⟩ := H
    replace H : (if t272 = true then ((spec_l1State.f k l2).bind fun t273 => (spec_RangeOf.j0 k l0 l1 l2 (!t273))) else (spec_RangeOf.j0 k l0 l1 l2 true)) = some (r1, r2, r3) := H
    have A8 := Aside0.mk A80
    clear A80
    by_cases c9 : t272 = true
    ·subst c9
     have H1 : ((spec_l1State.f k l2).bind fun t273 => (spec_RangeOf.j0 k l0 l1 l2 (!t273))) = some (r1, r2, r3) := by rw [if_pos rfl] at H; exact H
     clear H
     have H := H1
     clear H1
     replace H := Option.bind_eq_some_iff.mp H
     obtain ⟨t273, A100, H⟩ := H
     replace H : (spec_RangeOf.j0 k l0 l1 l2 (!t273)) = some (r1, r2, r3) := H
     have A10 := Aside0.mk A100
     clear A100
     have H' := Aside0.mk H
     clear H
     go_wp2_with (first | (go_at_call 24; (with_reducible refine (spec_TermsValid.calls k _ _ l0 (l1.length : Int) true _ ?side1 ?side2 A6.out).mono ?_); (case side1 => repeat (first | exact (Kd.C_below HR0.out HB.out) | (with_reducible refine Kd.C_alloc ?_ _) | (with_reducible refine Kd.C_drewN ?_ _) | (with_reducible refine Kd.C_drew ?_))); (case side2 => exact HC0.out); rintro e w11 ⟨rfl, hb⟩; have n0_ := Aside0.mk (below_step (by repeat (first | (with_reducible first | exact HB.out | apply bwA | apply bwN | apply bwD) | exact HB.out)) hb); clear HB; have HB := n0_; clear n0_; (try clear hb); (try clear hb2); (try clear hk); (try clear hi)) | (go_at_call 53; (with_reducible refine (spec_l1State.calls k _ _ l1 true _ ?side1 ?side2 A8.out).mono ?_); (case side1 => repeat (first | exact (Kd.C_below HR1.out HB.out) | (with_reducible refine Kd.C_alloc ?_ _) | (with_reducible refine Kd.C_drewN ?_ _) | (with_reducible refine Kd.C_drew ?_))); (case side2 => exact HC1.out); rintro e w' ⟨rfl, ⟨nd, rfl⟩⟩) | (go_at_call 53; (with_reducible refine (spec_l1State.calls k _ _ l2 t273 _ ?side1 ?side2 A10.out).mono ?_); (case side1 => repeat (first | exact (Kd.C_below HR2.out (by repeat (first | (with_reducible first | exact HB.out | apply bwA | apply bwN | apply bwD) | exact HB.out))) | (with_reducible refine Kd.C_alloc ?_ _) | (with_reducible refine Kd.C_drewN ?_ _) | (with_reducible refine Kd.C_drew ?_))); (case side2 => exact HC2.out); rintro e w' ⟨rfl, ⟨nd, rfl⟩⟩))
     go_meet
     case rel => exact ⟨_, (!t273), (by first | rfl | (simp; done) | (simp [*]; done)), H', ⟨by first | omega | exact Nat.le_refl _⟩, ⟨by repeat (first | (with_reducible first | exact HB.out | apply bwA | apply bwN | apply bwD) | exact HB.out)⟩⟩
    ·replace c9 := Bool.eq_false_iff.mpr c9
     subst c9
     have H1 : (spec_RangeOf.j0 k l0 l1 l2 true) = some (r1, r2, r3) := by rw [if_neg (show ¬ (false = true) by decide)] at H; exact H
     clear H
     have H := H1
     clear H1
     have H' := Aside0.mk H
     clear H
     go_wp2_with (first | (go_at_call 24; (with_reducible refine (spec_TermsValid.calls k _ _ l0 (l1.length : Int) true _ ?side1 ?side2 A6.out).mono ?_); (case side1 => repeat (first | exact (Kd.C_below HR0.out HB.out) | (with_reducible refine Kd.C_alloc ?_ _) | (with_reducible refine Kd.C_drewN ?_ _) | (with_reducible refine Kd.C_drew ?_))); (case side2 => exact HC0.out); rintro e w12 ⟨rfl, hb⟩; have n0_ := Aside0.mk (below_step (by repeat (first | (with_reducible first | exact HB.out | apply bwA | apply bwN | apply bwD) | exact HB.out)) hb); clear HB; have HB := n0_; clear n0_; (try clear hb); (try clear hb2); (try clear hk); (try clear hi)) | (go_at_call 53; (with_reducible refine (spec_l1State.calls k _ _ l1 false _ ?side1 ?side2 A8.out).mono ?_); (case side1 => repeat (first | exact (Kd.C_below HR1.out HB.out) | (with_reducible refine Kd.C_alloc ?_ _) | (with_reducible refine Kd.C_drewN ?_ _) | (with_reducible refine Kd.C_drew ?_))); (case side2 => exact HC1.out); rintro e w' ⟨rfl, ⟨nd, rfl⟩⟩))
     go_meet
     case rel => exact ⟨_, (true), (by first | rfl | (simp; done) | (simp [*]; done)), H', ⟨by first | omega | exact Nat.le_refl _⟩, ⟨by repeat (first | (with_reducible first | exact HB.out | apply bwA | apply bwN | apply bwD) | exact HB.out)⟩⟩
   ·replace c7 := Bool.eq_false_iff.mpr c7
    subst c7
    have H1 : (spec_RangeOf.j0 k l0 l1 l2 true) = some (r1, r2, r3) := by rw [if_neg (show ¬ (false = true) by decide)] at H; exact H
    clear H
    have H := H1
    clear H1
    have H' := Aside0.mk H
    clear H
    go_wp2_with (first | (go_at_call 24; (with_reducible refine (spec_TermsValid.calls k _ _ l0 (l1.length : Int) false _ ?side1 ?side2 A6.out).mono ?_); (case side1 => repeat (first | exact (Kd.C_below HR0.out HB.out) | (with_reducible refine Kd.C_alloc ?_ _) | (with_reducible refine Kd.C_drewN ?_ _) | (with_reducible refine Kd.C_drew ?_))); (case side2 => exact HC0.out); rintro e w13 ⟨rfl, hb⟩; have n0_ := Aside0.mk (below_step (by repeat (first | (with_reducible first | exact HB.out | apply bwA | apply bwN | apply bwD) | exact HB.out)) hb); clear HB; have HB := n0_; clear n0_; (try clear hb); (try clear hb2); (try clear hk); (try clear hi)))
    go_meet
    case rel => exact ⟨_, (true), (by first | rfl | (simp; done) | (simp [*]; done)), H', ⟨by first | omega | exact Nat.le_refl _⟩, ⟨by repeat (first | (with_reducible first | exact HB.out | apply bwA | apply bwN | apply bwD) | exact HB.out)⟩⟩
  ·rw [if_neg c5] at H
   have c5b0 : ((l1.length : Int) == (l2.length : Int)) = false := beq_eq_false_iff_ne.mpr c5
   have c5b1 : ((l1.length : Int) != (l2.length : Int)) = true := bne_iff_ne.mpr c5
   have c5b2 : (l1.length == l2.length) = false := by first | simpa using c5 | (simp at c5 ⊢; omega)
   (first | rw [c5b0] | (simp only [i64_w, i32_w]; rw [c5b0]) | skip)
   have H' := Aside0.mk H
   clear H
   go_wp2
   go_meet
   case rel => exact ⟨_, (true), (by first | rfl | (simp; done) | (simp [*]; done)), H', ⟨by first | omega | exact Nat.le_refl _⟩, ⟨by repeat (first | (with_reducible first | exact HB.out | apply bwA | apply bwN | apply bwD) | exact HB.out)⟩⟩
 case rest =>
  clear HC4
  try clear c1
  try clear c2
  try clear p2
  try clear c3
  try clear c5
  try clear c5b0
  try clear c5b1
  try clear c5b2
  try clear c7
  try clear c9
  obtain ⟨kq, x35_3, rfl, HA, HJ3, HB⟩ := hcut
  cases kq with
  | zero => exact absurd HA.out (by simp [spec_RangeOf.j0])
  | succ kj3 =>
   have H := HA.out
   clear HA
   simp only [spec_RangeOf.j0] at H
   by_cases c14 : x35_3 = true
   ·subst c14
    have H1 : (some (0, 0, false)) = some (r1, r2, r3) := by rw [if_pos rfl] at H; exact H
    clear H
    have H := H1
    clear H1
    simp only [Option.some.injEq, Prod.mk.injEq] at H
    obtain ⟨rfl, rfl, rfl⟩ := H
    go_wp2
    go_ret3
    exact ⟨by first | rfl | (simp [errW_none, errW_some] <;> rfl) | (simp [*, errW_none, errW_some] <;> rfl), by repeat (first | (with_reducible first | exact HB.out | apply bwA | apply bwN | apply bwD) | exact HB.out)⟩
   ·replace c14 := Bool.eq_false_iff.mpr c14
    subst c14
    have H1 : (spec_RangeOf.l0 kj3 l0 l1 l2 0) = some (r1, r2, r3) := by rw [if_neg (show ¬ (false = true) by decide)] at H; exact H
    clear H
    have H := H1
    clear H1
    have H' := Aside0.mk H
    clear H
    go_wp2
    go_loopg [9] kj3 (fun kq v9 w' => ∃ (x9_2 : Int), v9 = .int .i64 x9_2 ∧ Aside0 (spec_RangeOf.l0 kq l0 l1 l2 x9_2 = some (r1, r2, r3)) ∧ Aside0 (kq ≤ kj3) ∧ Aside0 (Below w.heap.size w w'))
    case atStart => exact ⟨(0), (by first | rfl | (simp; done) | (simp [*]; done)), H', ⟨Nat.le_refl _⟩, ⟨by repeat (first | (with_reducible first | exact HB.out | apply bwA | apply bwN | apply bwD) | exact HB.out)⟩⟩
    case round =>
     clear H'
     try clear c1
     try clear c2
     try clear p2
     try clear c3
     try clear c5
     try clear c5b0
     try clear c5b1
     try clear c5b2
     try clear c7
     try clear c9
     try clear c14
     try clear p2
     obtain ⟨x9_2, rfl, HA, HK2, HB⟩ := hrel
     cases gk with
     | zero => exact absurd HA.out (by simp [spec_RangeOf.l0])
     | succ k2 =>
      have H := HA.out
      clear HA
      simp only [spec_RangeOf.l0] at H
      by_cases c15 : x9_2 < (l1.length : Int)
      ·rw [if_pos c15] at H
       have c15b0 : decide (x9_2 < (l1.length : Int)) = true := decide_eq_true c15
       clear c15
       by_cases c16 : 0 ≤ x9_2
       ·rw [if_pos c16] at H
        have c16b0 : decide (0 ≤ x9_2) = true := decide_eq_true c16
        clear c16
        by_cases c17 : x9_2 < (l2.length : Int)
        ·rw [if_pos c17] at H
         have c17b0 : decide (x9_2 < (l2.length : Int)) = true := decide_eq_true c17
         clear c17
         by_cases c18 : (rd l1 x9_2) > (rd l2 x9_2)
         ·rw [if_pos c18] at H
          have c18b0 : decide ((rd l2 x9_2) < (rd l1 x9_2)) = true := decide_eq_true c18
          clear c18
          simp only [Option.some.injEq, Prod.mk.injEq] at H
          obtain ⟨rfl, rfl, rfl⟩ := H
          try go_wp2
          have n0_ := Aside0.mk (below_drew1 HB.out)
          clear HB
          have HB := n0_
          clear n0_
          have p274 : 0 ≤ (x9_2 : Int) := of_decide_eq_true (by first | (with_reducible assumption) | assumption)
          have q274 : x9_2 < (l1.length : Int) := of_decide_eq_true (by first | (with_reducible assumption) | assumption)
          obtain ⟨ad274, e274, hx274_0⟩ := Kd.at_int HR1.out x9_2 p274 q274
          have hw274_0 := hx274_0
          cases e274
          try replace hx274_0 := (HB.out.cell (World.block_lt_of_cell? w _ hx274_0)).trans hx274_0
          replace p274 := eq_true p274
          replace q274 := eq_true q274
          have p275 : 0 ≤ (x9_2 : Int) := of_decide_eq_true (by first | (with_reducible assumption) | assumption)
          have q275 : x9_2 < (l2.length : Int) := of_decide_eq_true (by first | (with_reducible assumption) | assumption)
          obtain ⟨ad275, e275, hx275_0⟩ := Kd.at_int HR2.out x9_2 p275 q275
          have hw275_0 := hx275_0
          cases e275
          try replace hx275_0 := (HB.out.cell (World.block_lt_of_cell? w _ hx275_0)).trans hx275_0
          replace p275 := eq_true p275
          replace q275 := eq_true q275
          refine start_ (n := 9) (S := fun w' => w'.cell? (ad274.add (x9_2).toNat) = some (.int .i64 (rd l1 x9_2)) ∧ w'.cell? (ad275.add (x9_2).toNat) = some (.int .i64 (rd l2 x9_2))) (ds := []) (Pt.bm 9 0) (by kernel_rfl) rfl rfl ⟨((HB.out.cell (World.block_lt_of_cell? w _ hw274_0)).trans hw274_0), ((HB.out.cell (World.block_lt_of_cell? w _ hw275_0)).trans hw275_0)⟩ (fun hHeld => ?_); refine with_tabW spec_RangeOf.tab6 spec_RangeOf.bits6 (fun HT_ HW_ => ?_)
          generalize wr.drew = w19 at HB hx274_0 hx275_0 hHeld ⊢
          refine Pt.pu 0 (some 42) (Pt.bm 9 1) (any_of HT_.out (by kernel_rfl)) ?_
          refine Pt.pu 1 (some 43) (Pt.bm 9 3) (any_of HT_.out (by kernel_rfl)) ?_
          refine Pt.pu 2 (some 44) (Pt.bm 9 7) (any_of HT_.out (by kernel_rfl)) ?_
          refine Pt.pu 4 (some 46) (Pt.bm 9 23) (any_of HT_.out (by kernel_rfl)) ?_
          refine Pt.pu 5 (some 47) (Pt.bm 9 55) (any_of HT_.out (by kernel_rfl)) ?_
          refine Pt.pu 6 (some 48) (Pt.bm 9 119) (any_of HT_.out (by kernel_rfl)) ?_
          refine Pt.tk 3 (some 45) (Pt.bm 9 127) rfl rfl (take_ofW HT_.out HW_.out (by kernel_rfl)) hHeld (Or.inl ⟨by rfl, by rintro w' ⟨s0, s1⟩; go_simp; with_reducible rfl⟩) ?_
          refine Pt.tk 7 (some 49) (Pt.bm 9 255) rfl rfl (take_ofW HT_.out HW_.out (by kernel_rfl)) hHeld (Or.inl ⟨by rfl, by rintro w' ⟨s0, s1⟩; go_simp; with_reducible rfl⟩) ?_
          refine Pt.pu 8 (some 50) (Pt.bm 9 511) (any_of HT_.out (by kernel_rfl)) ?_
          refine done_ (done_of HT_.out (by kernel_rfl)) ?_
          try go_wp2
          go_ret3
          exact ⟨by first | rfl | (simp [errW_none, errW_some] <;> rfl) | (simp [*, errW_none, errW_some] <;> rfl), by repeat (first | (with_reducible first | exact HB.out | apply bwA | apply bwN | apply bwD) | exact HB.out)⟩
         ·rw [if_neg c18] at H
          have c18b0 : decide ((rd l2 x9_2) < (rd l1 x9_2)) = false := decide_eq_false c18
          clear c18
          have H' := Aside0.mk H
          clear H
          try go_wp2
          have n0_ := Aside0.mk (below_drew1 HB.out)
          clear HB
          have HB := n0_
          clear n0_
          have p274 : 0 ≤ (x9_2 : Int) := of_decide_eq_true (by first | (with_reducible assumption) | assumption)
          have q274 : x9_2 < (l1.length : Int) := of_decide_eq_true (by first | (with_reducible assumption) | assumption)
          obtain ⟨ad274, e274, hx274_0⟩ := Kd.at_int HR1.out x9_2 p274 q274
          have hw274_0 := hx274_0
          cases e274
          try replace hx274_0 := (HB.out.cell (World.block_lt_of_cell? w _ hx274_0)).trans hx274_0
          replace p274 := eq_true p274
          replace q274 := eq_true q274
          have p275 : 0 ≤ (x9_2 : Int) := of_decide_eq_true (by first | (with_reducible assumption) | assumption)
          have q275 : x9_2 < (l2.length : Int) := of_decide_eq_true (by first | (with_reducible assumption) | assumption)
          obtain ⟨ad275, e275, hx275_0⟩ := Kd.at_int HR2.out x9_2 p275 q275
          have hw275_0 := hx275_0
          cases e275
          try replace hx275_0 := (HB.out.cell (World.block_lt_of_cell? w _ hx275_0)).trans hx275_0
          replace p275 := eq_true p275
          replace q275 := eq_true q275
          refine start_ (n := 9) (S := fun w' => w'.cell? (ad274.add (x9_2).toNat) = some (.int .i64 (rd l1 x9_2)) ∧ w'.cell? (ad275.add (x9_2).toNat) = some (.int .i64 (rd l2 x9_2))) (ds := []) (Pt.bm 9 0) (by kernel_rfl) rfl rfl ⟨((HB.out.cell (World.block_lt_of_cell? w _ hw274_0)).trans hw274_0), ((HB.out.cell (World.block_lt_of_cell? w _ hw275_0)).trans hw275_0)⟩ (fun hHeld => ?_); refine with_tabW spec_RangeOf.tab6 spec_RangeOf.bits6 (fun HT_ HW_ => ?_)
          generalize wr.drew = w20 at HB hx274_0 hx275_0 hHeld ⊢
          refine Pt.pu 0 (some 42) (Pt.bm 9 1) (any_of HT_.out (by kernel_rfl)) ?_
          refine Pt.pu 1 (some 43) (Pt.bm 9 3) (any_of HT_.out (by kernel_rfl)) ?_
          refine Pt.pu 2 (some 44) (Pt.bm 9 7) (any_of HT_.out (by kernel_rfl)) ?_
          refine Pt.pu 4 (some 46) (Pt.bm 9 23) (any_of HT_.out (by kernel_rfl)) ?_
          refine Pt.pu 5 (some 47) (Pt.bm 9 55) (any_of HT_.out (by kernel_rfl)) ?_
          refine Pt.pu 6 (some 48) (Pt.bm 9 119) (any_of HT_.out (by kernel_rfl)) ?_
          refine Pt.tk 3 (some 45) (Pt.bm 9 127) rfl rfl (take_ofW HT_.out HW_.out (by kernel_rfl)) hHeld (Or.inl ⟨by rfl, by rintro w' ⟨s0, s1⟩; go_simp; with_reducible rfl⟩) ?_
          refine Pt.tk 7 (some 49) (Pt.bm 9 255) rfl rfl (take_ofW HT_.out HW_.out (by kernel_rfl)) hHeld (Or.inl ⟨by rfl, by rintro w' ⟨s0, s1⟩; go_simp; with_reducible rfl⟩) ?_
          refine Pt.pu 8 (some 50) (Pt.bm 9 511) (any_of HT_.out (by kernel_rfl)) ?_
          refine done_ (done_of HT_.out (by kernel_rfl)) ?_
          try go_wp2
          go_roundg k2
          case measure => have := HJ3.out; have := HK2.out; omega
          case rel => exact ⟨(wrap64 (x9_2 + 1)), (by first | rfl | (simp; done) | (simp [*]; done)), H', ⟨by have := HJ3.out; have := HK2.out; omega⟩, ⟨by repeat (first | (with_reducible first | exact HB.out | apply bwA | apply bwN | apply bwD) | exact HB.out)⟩⟩
        ·rw [if_neg c17] at H
         exact absurd H (by simp)
       ·rw [if_neg c16] at H
        exact absurd H (by simp)
      ·rw [if_neg c15] at H
       have c15b0 : decide (x9_2 < (l1.length : Int)) = false := decide_eq_false c15
       clear c15
       obtain ⟨y276, hy276⟩ : ∃ y_ : List (List Int), y_ = (([] : List (List Int))) := ⟨_, rfl⟩
       replace H : (spec_RangeOf.l1 k2 l0 l1 l2 y276 0) = some (r1, r2, r3) := by first | (rw [hy276]; with_reducible exact H) | (have H2_ := (Option.bind_some _ _).symm.trans H; rw [hy276]; with_reducible exact H2_) | (have H2_ := (Option.bind_some _ _).symm.trans H; with_reducible exact H2_) | with_reducible exact H | (rw [hy276]; exact H) | exact H
       have Ny276 := Aside0.mk hy276
       clear hy276
       have H' := Aside0.mk H
       clear H
       go_wp2_with (first | ((with_reducible refine gate_dst (N := 51) rfl ?_); (try (refine gate_guard (by rfl) ?_; dsimp only)); refine Kd.S_lit (Kd.slice 3 (Kd.int .i64)) _ 23 ?hg (N := 51) ?hd (xs := ([] : List (List Int))) (inner := []) (ok := fun _ => True) (okp := fun _ => True) ?hr ?hp (fun _ hk => hk) trivial (Below.refl _ _) (Nat.le_refl _) (by simp) ?_; (case hd => rfl); (case hg => rfl); (case hr => first | (go_simp; done) | (go_simp; rfl)); (case hp => exact (Reps.none _ _)); intro v277 w21 ho22 hb hg_ hnew_; clear hg_ hnew_; (first | rw [← Ny276.out] at ho22 | (simp only [Int.reduceToNat] at ho22; rw [← Ny276.out] at ho22)); have n0_ := Aside0.mk (Kd.S_lower ho22 (below_size (by repeat (first | (with_reducible first | exact HB.out | apply bwA | apply bwN | apply bwD) | exact HB.out)))); have n1_ := Aside0.mk (below_step (by repeat (first | (with_reducible first | exact HB.out | apply bwA | apply bwN | apply bwD) | exact HB.out)) hb); clear HB; have HO278 := n0_; have HB := n1_; clear n0_ n1_; clear hb ho22))
       go_loopg [10, 11] k2 (fun kq v10 v11 w' => ∃ (x10_3 : List (List Int)) (x11_3 : Int), v11 = .int .i64 x11_3 ∧ Aside0 (spec_RangeOf.l1 kq l0 l1 l2 x10_3 x11_3 = some (r1, r2, r3)) ∧ Aside0 (kq ≤ k2) ∧ Aside0 (Kd.S (Kd.slice 3 (Kd.int .i64)) 23 w' w.heap.size (fun _ => True) v10 x10_3) ∧ Aside0 (Below w.heap.size w w'))
       case atStart => exact ⟨(y276), (0), (by first | rfl | (simp; done) | (simp [*]; done)), H', ⟨Nat.le_refl _⟩, ⟨by (with_reducible repeat (first | apply Kd.S_alloc | apply Kd.S_drewN | apply Kd.S_drew)); exact HO278.out⟩, ⟨by repeat (first | (with_reducible first | exact HB.out | apply bwA | apply bwN | apply bwD) | exact HB.out)⟩⟩
       case round =>
        clear H'
        try clear c1
        try clear c2
        try clear p2
        try clear q2
        try clear hx2
        try clear c3
        try clear c5
        try clear c5b0
        try clear c5b1
        try clear c5b2
        try clear p6
        try clear c7
        try clear c9
        try clear c14
        try clear c15
        try clear c15b0
        try clear c16
        try clear c16b0
        try clear c17
        try clear c17b0
        try clear c18
        try clear c18b0
        try clear hx274_0
        try clear hx275_0
        try clear p2
        try clear p274
        try clear p275
        try clear q274
        try clear q275
        obtain ⟨x10_3, x11_3, rfl, HA, HK3, HO_10, HB⟩ := hrel
        cases gk with
        | zero => exact absurd HA.out (by simp [spec_RangeOf.l1])
        | succ k3 =>
         have H := HA.out
         clear HA
         simp only [spec_RangeOf.l1] at H
         by_cases c23 : x11_3 < (l0.length : Int)
         ·rw [if_pos c23] at H
          have c23b0 : decide (x11_3 < (l0.length : Int)) = true := decide_eq_true c23
          clear c23
          by_cases c24 : 0 ≤ x11_3
          ·rw [if_pos c24] at H
           have c24b0 : decide (0 ≤ x11_3) = true := decide_eq_true c24
           clear c24
           by_cases c25 : ((rd_T73 l0 x11_3).f0) = 0
           ·rw [if_pos c25] at H
            have c25b0 : (((rd_T73 l0 x11_3).f0) == 0) = true := beq_iff_eq.mpr c25
            have c25b1 : (((rd_T73 l0 x11_3).f0) != 0) = false := bne_eq_false_iff_eq.mpr c25
            clear c25
            obtain ⟨y284, hy284⟩ : ∃ y_ : List Int, y_ = (([(rd_T73 l0 x11_3).f1, (rd_T73 l0 x11_3).f1] : List Int)) := ⟨_, rfl⟩
            replace H : (if x10_3.length < 5864062014805 then (spec_RangeOf.l1 k3 l0 l1 l2 (x10_3 ++ [y284]) (wrap64 (x11_3 + 1))) else (none)) = some (r1, r2, r3) := by first | (rw [hy284]; with_reducible exact H) | (have H2_ := (Option.bind_some _ _).symm.trans H; rw [hy284]; with_reducible exact H2_) | (have H2_ := (Option.bind_some _ _).symm.trans H; with_reducible exact H2_) | with_reducible exact H | (rw [hy284]; exact H) | exact H
            have Ny284 := Aside0.mk hy284
            clear hy284
            by_cases c26 : x10_3.length < 5864062014805
            ·rw [if_pos c26] at H
             have LMc26 := Aside0.mk c26
             clear c26
             obtain ⟨y287, hy287⟩ : ∃ y_ : List (List Int), y_ = (x10_3 ++ [y284]) := ⟨_, rfl⟩
             replace H : (spec_RangeOf.l1 k3 l0 l1 l2 y287 (wrap64 (x11_3 + 1))) = some (r1, r2, r3) := by first | (rw [hy287]; with_reducible exact H) | (have H2_ := (Option.bind_some _ _).symm.trans H; rw [hy287]; with_reducible exact H2_) | (have H2_ := (Option.bind_some _ _).symm.trans H; with_reducible exact H2_) | with_reducible exact H | (rw [hy287]; exact H) | exact H
             have Ny287 := Aside0.mk hy287
             clear hy287
             have H' := Aside0.mk H
             clear H
             have p282 : 0 ≤ (x11_3 : Int) := of_decide_eq_true (by first | (with_reducible assumption) | assumption)
             have q282 : x11_3 < (l0.length : Int) := of_decide_eq_true (by first | (with_reducible assumption) | assumption)
             obtain ⟨ad282, e282, hx282_0, hx282_1, hx282_2, hx282_3⟩ := at_T73 HR0.out x11_3 p282 q282
             cases e282
             try replace hx282_0 := (HB.out.cell (World.block_lt_of_cell? w _ hx282_0)).trans hx282_0
             try replace hx282_1 := (HB.out.cell (World.block_lt_of_cell? w _ hx282_1)).trans hx282_1
             try replace hx282_2 := (HB.out.cell (World.block_lt_of_cell? w _ hx282_2)).trans hx282_2
             try replace hx282_3 := (HB.out.cell (World.block_lt_of_cell? w _ hx282_3)).trans hx282_3
             replace p282 := eq_true p282
             replace q282 := eq_true q282
             go_wp2_with (first | ((with_reducible refine gate_dst (N := 12) rfl ?_); (try (refine gate_guard (by rfl) ?_; dsimp only)); refine box_event ?hg (N := 12) ?hd (cs := #[.int .i64 0, .int .i64 0, .int .i64 0, .int .i64 0]) (t := 73) ?hr ?_; (case hd => rfl); (case hg => rfl); (case hr => first | (go_simp; done) | (go_simp; rfl)); intro gb283 hg w27 hbox hb; have n0_ := Aside0.mk (Kd.S_below (by (with_reducible repeat (first | apply Kd.S_alloc | apply Kd.S_drewN | apply Kd.S_drew)); exact HO_10.out) hb); have n1_ := Aside0.mk (below_step (by repeat (first | (with_reducible first | exact HB.out | apply bwA | apply bwN | apply bwD) | exact HB.out)) hb); have n2_ := Aside0.mk (hbox); have n3_ := Aside0.mk ((by rw [hg]; exact (below_size (by repeat (first | (with_reducible first | exact HB.out | apply bwA | apply bwN | apply bwD) | exact HB.out))) : w.heap.size ≤ gb283)); have n4_ := Aside0.mk ((by rw [hg]; exact (below_size (by repeat (first | (with_reducible first | exact HB.out | apply bwA | apply bwN | apply bwD) | exact HB.out))) : w.heap.size ≤ gb283)); clear HO_10; clear HB; have HO_10 := n0_; have HB := n1_; have BK283 := n2_; have GW283 := n3_; have GE283 := n4_; clear n0_ n1_ n2_ n3_ n4_; clear hb hbox hg; have hcz28_0 : w27.cell? ⟨gb283, 0, none⟩ = some (.int .i64 0) := (blk_cell BK283.out 0).trans rfl; have hcz28_1 : w27.cell? ⟨gb283, 1, none⟩ = some (.int .i64 0) := (blk_cell BK283.out 1).trans rfl; have hcz28_2 : w27.cell? ⟨gb283, 2, none⟩ = some (.int .i64 0) := (blk_cell BK283.out 2).trans rfl; have hcz28_3 : w27.cell? ⟨gb283, 3, none⟩ = some (.int .i64 0) := (blk_cell BK283.out 3).trans rfl; have hfz28_0 := blk_frozen BK283.out 0; have hfz28_1 := blk_frozen BK283.out 1; have hfz28_2 := blk_frozen BK283.out 2; have hfz28_3 := blk_frozen BK283.out 3) | ((with_reducible refine gate_dst (N := 70) rfl ?_); (try (refine gate_guard (by rfl) ?_; dsimp only)); refine Kd.R_lit (Kd.int .i64) _ 3 ?hg (N := 70) ?hd (xs := ([(rd_T73 l0 x11_3).f1, (rd_T73 l0 x11_3).f1] : List Int)) (inner := [.int .i64 ((rd_T73 l0 x11_3).f1), .int .i64 ((rd_T73 l0 x11_3).f1)]) (ok := fun _ => True) (okp := fun _ => True) ?hr ?hp (fun _ hk => hk) trivial (Below.refl _ _) (Nat.le_refl _) (by simp) ?_; (case hd => rfl); (case hg => rfl); (case hr => first | (go_simp; done) | (go_simp; rfl)); (case hp => exact (Reps.one (show Kd.M (Kd.int .i64) _ _ _ ((rd_T73 l0 x11_3).f1) [.int .i64 ((rd_T73 l0 x11_3).f1)] from rfl) (Reps.one (show Kd.M (Kd.int .i64) _ _ _ ((rd_T73 l0 x11_3).f1) [.int .i64 ((rd_T73 l0 x11_3).f1)] from rfl) (Reps.none _ _)))); intro v285 w29 ho30 hb hg_ hnew_; clear hg_ hnew_; (first | rw [← Ny284.out] at ho30 | (simp only [Int.reduceToNat] at ho30; rw [← Ny284.out] at ho30)); have n0_ := Aside0.mk (Kd.S_elder' (by (with_reducible repeat (first | apply Kd.S_alloc | apply Kd.S_drewN | apply Kd.S_drew)); exact (Kd.S_mono (Kd.S_far (p := ⟨gb283, 3, none⟩) (Kd.S_far (p := ⟨gb283, 2, none⟩) (Kd.S_far (p := ⟨gb283, 1, none⟩) (Kd.S_far (p := ⟨gb283, 0, none⟩) (Kd.S_types HO_10.out BK283.out (by decide)) (fun _ hk => hk.2) (.int .i64 ((rd_T73 l0 x11_3).f0))) (fun _ hk => hk.2) (.int .i64 ((rd_T73 l0 x11_3).f1))) (fun _ hk => hk.2) (.int .i64 ((rd_T73 l0 x11_3).f2))) (fun _ hk => hk.2) (.int .i64 ((rd_T73 l0 x11_3).f3))) (fun _ h_ => h_.1))) (Kd.R_base ho30) hb); have n1_ := Aside0.mk (Kd.R_lower ho30 (below_size (by repeat (first | (with_reducible first | exact HB.out | apply bwA | apply bwN | apply bwD | refine below_set ?_ GE283.out) | exact HB.out)))); have n2_ := Aside0.mk (blk_below (g := gb283) (o := .cells #[.int .i64 ((rd_T73 l0 x11_3).f0), .int .i64 ((rd_T73 l0 x11_3).f1), .int .i64 ((rd_T73 l0 x11_3).f2), .int .i64 ((rd_T73 l0 x11_3).f3)] 73 (0, 0)) (by (with_reducible repeat (first | refine blk_drewN ?_ _ | refine blk_drew ?_ | refine blk_alloc ?_ _)); refine blk_put (cs := #[.int .i64 ((rd_T73 l0 x11_3).f0), .int .i64 ((rd_T73 l0 x11_3).f1), .int .i64 ((rd_T73 l0 x11_3).f2), .int .i64 0]) ?_ 3 _ rfl; (with_reducible repeat (first | refine blk_drewN ?_ _ | refine blk_drew ?_ | refine blk_alloc ?_ _)); refine blk_put (cs := #[.int .i64 ((rd_T73 l0 x11_3).f0), .int .i64 ((rd_T73 l0 x11_3).f1), .int .i64 0, .int .i64 0]) ?_ 2 _ rfl; (with_reducible repeat (first | refine blk_drewN ?_ _ | refine blk_drew ?_ | refine blk_alloc ?_ _)); refine blk_put (cs := #[.int .i64 ((rd_T73 l0 x11_3).f0), .int .i64 0, .int .i64 0, .int .i64 0]) ?_ 1 _ rfl; (with_reducible repeat (first | refine blk_drewN ?_ _ | refine blk_drew ?_ | refine blk_alloc ?_ _)); refine blk_put (cs := #[.int .i64 0, .int .i64 0, .int .i64 0, .int .i64 0]) ?_ 0 _ rfl; (with_reducible repeat (first | refine blk_drewN ?_ _ | refine blk_drew ?_ | refine blk_alloc ?_ _)); exact BK283.out) hb); have n3_ := Aside0.mk (below_step (by repeat (first | (with_reducible first | exact HB.out | apply bwA | apply bwN | apply bwD | refine below_set ?_ GE283.out) | exact HB.out)) hb); clear HO_10; clear BK283; clear HB; have HO_10 := n0_; have HO286 := n1_; have BK283 := n2_; have HB := n3_; clear n0_ n1_ n2_ n3_; clear hb ho30; obtain ⟨Ao32, co32, eo32⟩ := Kd.R_slice HO286.out; subst eo32) | ((with_reducible refine gate_builtin (b := .append) (xs := #[.tmp 65, .tmp 71]) rfl ?_); (try (refine gate_guard (by rfl) ?_; dsimp only)); at_builtin; refine Kd.S_append (Kd.slice 3 (Kd.int .i64)) (w0 := w) w.heap.size rfl (.tmp 65) (.tmp 71) 90 23 (.slice none 0 0) 24 rfl Try.underlying90 info23 rfl (by decide) (by omega) u10 x10_3 y284 [.slice Ao32 y284.length co32] (fun _ => True) (fun k_ => some k_ = (.slice Ao32 y284.length co32 : Value).ownBlock) rfl rfl ?aP (fun k_ hk_ => ((Kd.R_mono (ok' := fun k_ => ((fun _ => True)) k_ ∧ some k_ ≠ (u10 : Value).ownBlock) (Kd.R_apart' (HO286.out) (Kd.S_typed HO_10.out) (by decide)) (fun k_ hk => ⟨trivial, hk.2⟩))).1 k_ hk_.symm) ?aF ?aO ?aB ?aS ?aL ?_; (case aP => exact Kd.M_row (Kd.R_mono (Kd.R_tight rfl (Kd.R_mono (ok' := fun k_ => ((fun _ => True)) k_ ∧ some k_ ≠ (u10 : Value).ownBlock) (Kd.R_apart' (HO286.out) (Kd.S_typed HO_10.out) (by decide)) (fun k_ hk => ⟨trivial, hk.2⟩))) (fun _ h_ => h_))); (case aB => exact (by repeat (first | (with_reducible first | exact HB.out | apply bwA | apply bwN | apply bwD | refine below_set ?_ GE283.out) | exact HB.out))); (case aF => exact (fun _ _ => trivial)); (case aO => exact (by (with_reducible repeat (first | apply Kd.S_alloc | apply Kd.S_drewN | apply Kd.S_drew)); exact Kd.S_mono HO_10.out (fun k_ hk => ⟨trivial, fun e_ => hk.2 e_⟩))); (case aS => exact (below_size (by repeat (first | (with_reducible first | exact HB.out | apply bwA | apply bwN | apply bwD | refine below_set ?_ GE283.out) | exact HB.out)))); (case aL => have := LMc26.out; omega); intro v288 w31 ho hb hg hat; rw [← Ny287.out] at ho; have n0_ := Aside0.mk (blk_grown (g := gb283) (o := .cells #[.int .i64 ((rd_T73 l0 x11_3).f0), .int .i64 ((rd_T73 l0 x11_3).f1), .int .i64 ((rd_T73 l0 x11_3).f2), .int .i64 ((rd_T73 l0 x11_3).f3)] 73 (0, 0)) (by (with_reducible repeat (first | refine blk_drewN ?_ _ | refine blk_drew ?_ | refine blk_alloc ?_ _)); exact BK283.out) hg (Kd.S_ne HO_10.out BK283.out (by decide))); have n1_ := Aside0.mk (hb); have n2_ := Aside0.mk (ho); clear BK283; clear HB; clear HO_10; clear HO286; have BK283 := n0_; have HB := n1_; have HO289 := n2_; clear n0_ n1_ n2_; clear ho hb hg hat))
             go_roundg k3
             case measure => have := HJ3.out; have := HK2.out; have := HK3.out; omega
             case rel => exact ⟨(y287), (wrap64 (x11_3 + 1)), (by first | rfl | (simp; done) | (simp [*]; done)), H', ⟨by have := HJ3.out; have := HK2.out; have := HK3.out; omega⟩, ⟨by (with_reducible repeat (first | apply Kd.S_alloc | apply Kd.S_drewN | apply Kd.S_drew)); exact HO289.out⟩, ⟨by repeat (first | (with_reducible first | exact HB.out | apply bwA | apply bwN | apply bwD | refine below_set ?_ GE283.out) | exact HB.out)⟩⟩
            ·rw [if_neg c26] at H
             exact absurd H (by simp)
           ·rw [if_neg c25] at H
            have c25b0 : (((rd_T73 l0 x11_3).f0) == 0) = false := beq_eq_false_iff_ne.mpr c25
            have c25b1 : (((rd_T73 l0 x11_3).f0) != 0) = true := bne_iff_ne.mpr c25
            by_cases c33 : ((rd_T73 l0 x11_3).f0) = 1
            ·rw [if_pos c33] at H
             have c33b0 : (((rd_T73 l0 x11_3).f0) == 1) = true := beq_iff_eq.mpr c33
             have c33b1 : (((rd_T73 l0 x11_3).f0) != 1) = false := bne_eq_false_iff_eq.mpr c33
             clear c33
             by_cases c34 : 0 ≤ ((rd_T73 l0 x11_3).f1)
             ·rw [if_pos c34] at H
              have c34b0 : decide (0 ≤ ((rd_T73 l0 x11_3).f1)) = true := decide_eq_true c34
              clear c34
              by_cases c35 : ((rd_T73 l0 x11_3).f1) < (l1.length : Int)
              ·rw [if_pos c35] at H
               have c35b0 : decide (((rd_T73 l0 x11_3).f1) < (l1.length : Int)) = true := decide_eq_true c35
               clear c35
               by_cases c36 : ((rd_T73 l0 x11_3).f1) < (l2.length : Int)
               ·rw [if_pos c36] at H
                have c36b0 : decide (((rd_T73 l0 x11_3).f1) < (l2.length : Int)) = true := decide_eq_true c36
                clear c36
                obtain ⟨y292, hy292⟩ : ∃ y_ : List Int, y_ = (([rd l1 ((rd_T73 l0 x11_3).f1), rd l2 ((rd_T73 l0 x11_3).f1)] : List Int)) := ⟨_, rfl⟩
                replace H : (if x10_3.length < 5864062014805 then (spec_RangeOf.l1 k3 l0 l1 l2 (x10_3 ++ [y292]) (wrap64 (x11_3 + 1))) else (none)) = some (r1, r2, r3) := by first | (rw [hy292]; with_reducible exact H) | (have H2_ := (Option.bind_some _ _).symm.trans H; rw [hy292]; with_reducible exact H2_) | (have H2_ := (Option.bind_some _ _).symm.trans H; with_reducible exact H2_) | with_reducible exact H | (rw [hy292]; exact H) | exact H
                have Ny292 := Aside0.mk hy292
                clear hy292
                by_cases c37 : x10_3.length < 5864062014805
                ·rw [if_pos c37] at H
                 have LMc37 := Aside0.mk c37
                 clear c37
                 obtain ⟨y295, hy295⟩ : ∃ y_ : List (List Int), y_ = (x10_3 ++ [y292]) := ⟨_, rfl⟩
                 replace H : (spec_RangeOf.l1 k3 l0 l1 l2 y295 (wrap64 (x11_3 + 1))) = some (r1, r2, r3) := by first | (rw [hy295]; with_reducible exact H) | (have H2_ := (Option.bind_some _ _).symm.trans H; rw [hy295]; with_reducible exact H2_) | (have H2_ := (Option.bind_some _ _).symm.trans H; with_reducible exact H2_) | with_reducible exact H | (rw [hy295]; exact H) | exact H
                 have Ny295 := Aside0.mk hy295
                 clear hy295
                 have H' := Aside0.mk H
                 clear H
                 have p282 : 0 ≤ (x11_3 : Int) := of_decide_eq_true (by first | (with_reducible assumption) | assumption)
                 have q282 : x11_3 < (l0.length : Int) := of_decide_eq_true (by first | (with_reducible assumption) | assumption)
                 obtain ⟨ad282, e282, hx282_0, hx282_1, hx282_2, hx282_3⟩ := at_T73 HR0.out x11_3 p282 q282
                 cases e282
                 try replace hx282_0 := (HB.out.cell (World.block_lt_of_cell? w _ hx282_0)).trans hx282_0
                 try replace hx282_1 := (HB.out.cell (World.block_lt_of_cell? w _ hx282_1)).trans hx282_1
                 try replace hx282_2 := (HB.out.cell (World.block_lt_of_cell? w _ hx282_2)).trans hx282_2
                 try replace hx282_3 := (HB.out.cell (World.block_lt_of_cell? w _ hx282_3)).trans hx282_3
                 replace p282 := eq_true p282
                 replace q282 := eq_true q282
                 try go_wp2_with (first | ((with_reducible refine gate_dst (N := 12) rfl ?_); (try (refine gate_guard (by rfl) ?_; dsimp only)); refine box_event ?hg (N := 12) ?hd (cs := #[.int .i64 0, .int .i64 0, .int .i64 0, .int .i64 0]) (t := 73) ?hr ?_; (case hd => rfl); (case hg => rfl); (case hr => first | (go_simp; done) | (go_simp; rfl)); intro gb283 hg w38 hbox hb; have n0_ := Aside0.mk (Kd.S_below (by (with_reducible repeat (first | apply Kd.S_alloc | apply Kd.S_drewN | apply Kd.S_drew)); exact HO_10.out) hb); have n1_ := Aside0.mk (below_step (by repeat (first | (with_reducible first | exact HB.out | apply bwA | apply bwN | apply bwD) | exact HB.out)) hb); have n2_ := Aside0.mk (hbox); have n3_ := Aside0.mk ((by rw [hg]; exact (below_size (by repeat (first | (with_reducible first | exact HB.out | apply bwA | apply bwN | apply bwD) | exact HB.out))) : w.heap.size ≤ gb283)); have n4_ := Aside0.mk ((by rw [hg]; exact (below_size (by repeat (first | (with_reducible first | exact HB.out | apply bwA | apply bwN | apply bwD) | exact HB.out))) : w.heap.size ≤ gb283)); clear HO_10; clear HB; have HO_10 := n0_; have HB := n1_; have BK283 := n2_; have GW283 := n3_; have GE283 := n4_; clear n0_ n1_ n2_ n3_ n4_; clear hb hbox hg; have hcz39_0 : w38.cell? ⟨gb283, 0, none⟩ = some (.int .i64 0) := (blk_cell BK283.out 0).trans rfl; have hcz39_1 : w38.cell? ⟨gb283, 1, none⟩ = some (.int .i64 0) := (blk_cell BK283.out 1).trans rfl; have hcz39_2 : w38.cell? ⟨gb283, 2, none⟩ = some (.int .i64 0) := (blk_cell BK283.out 2).trans rfl; have hcz39_3 : w38.cell? ⟨gb283, 3, none⟩ = some (.int .i64 0) := (blk_cell BK283.out 3).trans rfl; have hfz39_0 := blk_frozen BK283.out 0; have hfz39_1 := blk_frozen BK283.out 1; have hfz39_2 := blk_frozen BK283.out 2; have hfz39_3 := blk_frozen BK283.out 3))
                 have n0_ : Aside0 (Kd.S (Kd.slice 3 (Kd.int .i64)) 23 ((((w38.setCell ⟨gb283, 0, none⟩ (.int .i64 ((rd_T73 l0 x11_3).f0))).setCell ⟨gb283, 1, none⟩ (.int .i64 ((rd_T73 l0 x11_3).f1))).setCell ⟨gb283, 2, none⟩ (.int .i64 ((rd_T73 l0 x11_3).f2))).setCell ⟨gb283, 3, none⟩ (.int .i64 ((rd_T73 l0 x11_3).f3))) w.heap.size (fun _ => True) u10 x10_3) := ⟨by (with_reducible repeat (first | apply Kd.S_alloc | apply Kd.S_drewN | apply Kd.S_drew)); exact Kd.S_mono (Kd.S_far (p := ⟨gb283, 3, none⟩) (Kd.S_far (p := ⟨gb283, 2, none⟩) (Kd.S_far (p := ⟨gb283, 1, none⟩) (Kd.S_far (p := ⟨gb283, 0, none⟩) (Kd.S_types HO_10.out BK283.out (by decide)) (fun _ hk => hk.2) (.int .i64 ((rd_T73 l0 x11_3).f0))) (fun _ hk => hk.2) (.int .i64 ((rd_T73 l0 x11_3).f1))) (fun _ hk => hk.2) (.int .i64 ((rd_T73 l0 x11_3).f2))) (fun _ hk => hk.2) (.int .i64 ((rd_T73 l0 x11_3).f3))) (fun _ hk => trivial)⟩
                 have n1_ : Aside0 (((((w38.setCell ⟨gb283, 0, none⟩ (.int .i64 ((rd_T73 l0 x11_3).f0))).setCell ⟨gb283, 1, none⟩ (.int .i64 ((rd_T73 l0 x11_3).f1))).setCell ⟨gb283, 2, none⟩ (.int .i64 ((rd_T73 l0 x11_3).f2))).setCell ⟨gb283, 3, none⟩ (.int .i64 ((rd_T73 l0 x11_3).f3))).heap[gb283]? = some (.cells #[.int .i64 ((rd_T73 l0 x11_3).f0), .int .i64 ((rd_T73 l0 x11_3).f1), .int .i64 ((rd_T73 l0 x11_3).f2), .int .i64 ((rd_T73 l0 x11_3).f3)] 73 (0, 0))) := ⟨by (with_reducible repeat (first | refine blk_drewN ?_ _ | refine blk_drew ?_ | refine blk_alloc ?_ _)); refine blk_put (cs := #[.int .i64 ((rd_T73 l0 x11_3).f0), .int .i64 ((rd_T73 l0 x11_3).f1), .int .i64 ((rd_T73 l0 x11_3).f2), .int .i64 0]) ?_ 3 _ rfl; (with_reducible repeat (first | refine blk_drewN ?_ _ | refine blk_drew ?_ | refine blk_alloc ?_ _)); refine blk_put (cs := #[.int .i64 ((rd_T73 l0 x11_3).f0), .int .i64 ((rd_T73 l0 x11_3).f1), .int .i64 0, .int .i64 0]) ?_ 2 _ rfl; (with_reducible repeat (first | refine blk_drewN ?_ _ | refine blk_drew ?_ | refine blk_alloc ?_ _)); refine blk_put (cs := #[.int .i64 ((rd_T73 l0 x11_3).f0), .int .i64 0, .int .i64 0, .int .i64 0]) ?_ 1 _ rfl; (with_reducible repeat (first | refine blk_drewN ?_ _ | refine blk_drew ?_ | refine blk_alloc ?_ _)); refine blk_put (cs := #[.int .i64 0, .int .i64 0, .int .i64 0, .int .i64 0]) ?_ 0 _ rfl; (with_reducible repeat (first | refine blk_drewN ?_ _ | refine blk_drew ?_ | refine blk_alloc ?_ _)); exact BK283.out⟩
                 have n2_ : Aside0 (Below w.heap.size w ((((w38.setCell ⟨gb283, 0, none⟩ (.int .i64 ((rd_T73 l0 x11_3).f0))).setCell ⟨gb283, 1, none⟩ (.int .i64 ((rd_T73 l0 x11_3).f1))).setCell ⟨gb283, 2, none⟩ (.int .i64 ((rd_T73 l0 x11_3).f2))).setCell ⟨gb283, 3, none⟩ (.int .i64 ((rd_T73 l0 x11_3).f3)))) := ⟨by repeat (first | (with_reducible first | exact HB.out | apply bwA | apply bwN | apply bwD | refine below_set ?_ GE283.out) | exact HB.out)⟩
                 (try clear HO_10)
                 (try clear BK283)
                 (try clear HB)
                 generalize ((((w38.setCell ⟨gb283, 0, none⟩ (.int .i64 ((rd_T73 l0 x11_3).f0))).setCell ⟨gb283, 1, none⟩ (.int .i64 ((rd_T73 l0 x11_3).f1))).setCell ⟨gb283, 2, none⟩ (.int .i64 ((rd_T73 l0 x11_3).f2))).setCell ⟨gb283, 3, none⟩ (.int .i64 ((rd_T73 l0 x11_3).f3))) = w40 at n0_ n1_ n2_ ⊢
                 have HO_10 := n0_
                 have BK283 := n1_
                 have HB := n2_
                 clear n0_ n1_ n2_
                 have n0_ := Aside0.mk (Kd.S_drew HO_10.out)
                 have n1_ := Aside0.mk (blk_drew BK283.out)
                 have n2_ := Aside0.mk (below_drew1 HB.out)
                 clear HO_10
                 clear BK283
                 clear HB
                 have HO_10 := n0_
                 have BK283 := n1_
                 have HB := n2_
                 clear n0_ n1_ n2_
                 have p290 : 0 ≤ (((rd_T73 l0 x11_3).f1) : Int) := of_decide_eq_true (by first | (with_reducible assumption) | assumption)
                 have q290 : ((rd_T73 l0 x11_3).f1) < (l1.length : Int) := of_decide_eq_true (by first | (with_reducible assumption) | assumption)
                 obtain ⟨ad290, e290, hx290_0⟩ := Kd.at_int HR1.out ((rd_T73 l0 x11_3).f1) p290 q290
                 have hw290_0 := hx290_0
                 cases e290
                 try replace hx290_0 := (HB.out.cell (World.block_lt_of_cell? w _ hx290_0)).trans hx290_0
                 replace p290 := eq_true p290
                 replace q290 := eq_true q290
                 have p291 : 0 ≤ (((rd_T73 l0 x11_3).f1) : Int) := of_decide_eq_true (by first | (with_reducible assumption) | assumption)
                 have q291 : ((rd_T73 l0 x11_3).f1) < (l2.length : Int) := of_decide_eq_true (by first | (with_reducible assumption) | assumption)
                 obtain ⟨ad291, e291, hx291_0⟩ := Kd.at_int HR2.out ((rd_T73 l0 x11_3).f1) p291 q291
                 have hw291_0 := hx291_0
                 cases e291
                 try replace hx291_0 := (HB.out.cell (World.block_lt_of_cell? w _ hx291_0)).trans hx291_0
                 replace p291 := eq_true p291
                 replace q291 := eq_true q291
                 refine start_ (n := 15) (S := fun w' => w'.cell? ⟨gb283, 0, none⟩ = some (.int .i64 ((rd_T73 l0 x11_3).f0)) ∧ w'.cell? ⟨gb283, 1, none⟩ = some (.int .i64 ((rd_T73 l0 x11_3).f1)) ∧ w'.cell? ⟨gb283, 2, none⟩ = some (.int .i64 ((rd_T73 l0 x11_3).f2)) ∧ w'.cell? ⟨gb283, 3, none⟩ = some (.int .i64 ((rd_T73 l0 x11_3).f3)) ∧ w'.cell? (ad290.add (((rd_T73 l0 x11_3).f1)).toNat) = some (.int .i64 (rd l1 ((rd_T73 l0 x11_3).f1))) ∧ w'.cell? (ad291.add (((rd_T73 l0 x11_3).f1)).toNat) = some (.int .i64 (rd l2 ((rd_T73 l0 x11_3).f1)))) (ds := []) (Pt.bm 15 0) (by kernel_rfl) rfl rfl ⟨(blk_cell BK283.out 0).trans rfl, (blk_cell BK283.out 1).trans rfl, (blk_cell BK283.out 2).trans rfl, (blk_cell BK283.out 3).trans rfl, ((HB.out.cell (World.block_lt_of_cell? w _ hw290_0)).trans hw290_0), ((HB.out.cell (World.block_lt_of_cell? w _ hw291_0)).trans hw291_0)⟩ (fun hHeld => ?_); refine with_tabW spec_RangeOf.tab16 spec_RangeOf.bits16 (fun HT_ HW_ => ?_)
                 generalize w40.drew = w41 at HO_10 BK283 HB hx290_0 hx291_0 hHeld ⊢
                 refine Pt.pu 0 (some 76) (Pt.bm 15 1) (any_of HT_.out (by kernel_rfl)) ?_
                 refine Pt.pu 1 (some 77) (Pt.bm 15 3) (any_of HT_.out (by kernel_rfl)) ?_
                 refine Pt.pu 2 (some 78) (Pt.bm 15 7) (any_of HT_.out (by kernel_rfl)) ?_
                 refine Pt.pu 6 (some 82) (Pt.bm 15 71) (any_of HT_.out (by kernel_rfl)) ?_
                 refine Pt.pu 7 (some 83) (Pt.bm 15 199) (any_of HT_.out (by kernel_rfl)) ?_
                 refine Pt.tk 3 (some 79) (Pt.bm 15 207) rfl rfl (take_ofW HT_.out HW_.out (by kernel_rfl)) hHeld (Or.inl ⟨by rfl, by rintro w' ⟨s0, s1, s2, s3, s4, s5⟩; go_simp; with_reducible rfl⟩) ?_
                 refine Pt.pu 4 (some 80) (Pt.bm 15 223) (any_of HT_.out (by kernel_rfl)) ?_
                 refine Pt.tk 5 (some 81) (Pt.bm 15 255) rfl rfl (take_ofW HT_.out HW_.out (by kernel_rfl)) hHeld (Or.inl ⟨by rfl, by rintro w' ⟨s0, s1, s2, s3, s4, s5⟩; go_simp; with_reducible rfl⟩) ?_
                 refine Pt.tk 8 (some 84) (Pt.bm 15 511) rfl rfl (take_ofW HT_.out HW_.out (by kernel_rfl)) hHeld (Or.inl ⟨by rfl, by rintro w' ⟨s0, s1, s2, s3, s4, s5⟩; go_simp; with_reducible rfl⟩) ?_
                 refine Pt.pu 9 (some 85) (Pt.bm 15 1023) (any_of HT_.out (by kernel_rfl)) ?_
                 refine Pt.tk 10 (some 86) (Pt.bm 15 2047) rfl rfl (take_ofW HT_.out HW_.out (by kernel_rfl)) hHeld (Or.inl ⟨by rfl, by rintro w' ⟨s0, s1, s2, s3, s4, s5⟩; go_simp; with_reducible rfl⟩) ?_
                 refine one_ (i := 11) (N := some 87) (Pt.bm 15 4095) rfl rfl (one_of HT_.out (by kernel_rfl)) (by decide) (fun K hK => ?_)
                 refine Kd.R_lit_step (Kd.int .i64) _ 3 ?hg (N := 87) ?hd (xs := ([rd l1 ((rd_T73 l0 x11_3).f1), rd l2 ((rd_T73 l0 x11_3).f1)] : List Int)) (inner := [.int .i64 (rd l1 ((rd_T73 l0 x11_3).f1)), .int .i64 (rd l2 ((rd_T73 l0 x11_3).f1))]) (ok := fun _ => True) (okp := fun _ => True) ?hr ?hp (fun _ hk => hk) trivial (Below.refl _ _) (Nat.le_refl _) (by simp) ?_; (case hd => rfl); (case hg => rfl); (case hr => first | (go_simp; done) | (go_simp; rfl)); (case hp => exact (Reps.one (show Kd.M (Kd.int .i64) _ _ _ (rd l1 ((rd_T73 l0 x11_3).f1)) [.int .i64 (rd l1 ((rd_T73 l0 x11_3).f1))] from rfl) (Reps.one (show Kd.M (Kd.int .i64) _ _ _ (rd l2 ((rd_T73 l0 x11_3).f1)) [.int .i64 (rd l2 ((rd_T73 l0 x11_3).f1))] from rfl) (Reps.none _ _))))
                 intro v293 w42 ho43 hb hg_ hnew_
                 clear hg_ hnew_
                 (first | rw [← Ny292.out] at ho43 | (simp only [Int.reduceToNat] at ho43; rw [← Ny292.out] at ho43))
                 have n0_ := Aside0.mk (Kd.S_elder' (by (with_reducible repeat (first | apply Kd.S_alloc | apply Kd.S_drewN | apply Kd.S_drew)); exact HO_10.out) (Kd.R_base ho43) hb)
                 have n1_ := Aside0.mk (Kd.R_lower ho43 (below_size (by repeat (first | (with_reducible first | exact HB.out | apply bwA | apply bwN | apply bwD | refine below_set ?_ GE283.out) | exact HB.out))))
                 have n2_ := Aside0.mk (blk_below (g := gb283) (o := .cells #[.int .i64 ((rd_T73 l0 x11_3).f0), .int .i64 ((rd_T73 l0 x11_3).f1), .int .i64 ((rd_T73 l0 x11_3).f2), .int .i64 ((rd_T73 l0 x11_3).f3)] 73 (0, 0)) (by (with_reducible repeat (first | refine blk_drewN ?_ _ | refine blk_drew ?_ | refine blk_alloc ?_ _)); exact BK283.out) hb)
                 have n3_ := Aside0.mk (below_step (by repeat (first | (with_reducible first | exact HB.out | apply bwA | apply bwN | apply bwD | refine below_set ?_ GE283.out) | exact HB.out)) hb)
                 clear HO_10
                 clear BK283
                 clear HB
                 have HO_10 := n0_
                 have HO294 := n1_
                 have BK283 := n2_
                 have HB := n3_
                 clear n0_ n1_ n2_ n3_
                 clear hb ho43
                 obtain ⟨Ao45, co45, eo45⟩ := Kd.R_slice HO294.out
                 (first | subst eo45 | (injection eo45 with f1_ f2_ f3_; have f4_ := f1_.symm; have f5_ := f3_.symm; clear f1_ f2_ f3_; subst f4_; subst f5_))
                 refine hK.out _ _ ⟨(blk_cell BK283.out 0).trans rfl, (blk_cell BK283.out 1).trans rfl, (blk_cell BK283.out 2).trans rfl, (blk_cell BK283.out 3).trans rfl, ((HB.out.cell (World.block_lt_of_cell? w _ hw290_0)).trans hw290_0), ((HB.out.cell (World.block_lt_of_cell? w _ hw291_0)).trans hw291_0)⟩ (fun hHeld => ?_)
                 clear hK K
                 refine norm_ (a' := ?_) ?_ ?_
                 rotate_left
                 ·show Act.put _ (some 87) _ = _
                  simp only [Act.put, List.setIfInBounds_toArray, List.set_cons_zero, List.set_cons_succ, i64_w, i32_w]
                  rfl
                 refine one_ (i := 12) (N := some 88) (Pt.bm 15 8191) rfl rfl (one_of HT_.out (by kernel_rfl)) (by decide) (fun K hK => ?_)
                 refine value_ (w1 := ?_) (v := ?_) (by rfl) rfl ?_ ?_
                 rotate_left 2
                 ·go_simp
                  constructor
                  ·rfl
                  ·rfl
                 refine hK.out _ _ ⟨(blk_cell (blk_alloc BK283.out _) 0).trans rfl, (blk_cell (blk_alloc BK283.out _) 1).trans rfl, (blk_cell (blk_alloc BK283.out _) 2).trans rfl, (blk_cell (blk_alloc BK283.out _) 3).trans rfl, (World.cell?_alloc_lt _ _ _ (World.block_lt_of_cell? _ _ (((HB.out.cell (World.block_lt_of_cell? w _ hw290_0)).trans hw290_0)))).trans (((HB.out.cell (World.block_lt_of_cell? w _ hw290_0)).trans hw290_0)), (World.cell?_alloc_lt _ _ _ (World.block_lt_of_cell? _ _ (((HB.out.cell (World.block_lt_of_cell? w _ hw291_0)).trans hw291_0)))).trans (((HB.out.cell (World.block_lt_of_cell? w _ hw291_0)).trans hw291_0))⟩ (fun hHeld => ?_)
                 clear hK K
                 refine norm_ (a' := ?_) ?_ ?_
                 rotate_left
                 ·show Act.put _ (some 88) _ = _
                  simp only [Act.put, List.setIfInBounds_toArray, List.set_cons_zero, List.set_cons_succ, i64_w, i32_w]
                  rfl
                 refine one_ (i := 13) (N := some 89) (Pt.bm 15 16383) rfl rfl (one_of HT_.out (by kernel_rfl)) (by decide) (fun K hK => ?_)
                 refine Kd.S_append_step (Kd.slice 3 (Kd.int .i64)) (w0 := w) w.heap.size (by rfl) (.tmp 76) (.tmp 88) 90 23 (.slice none 0 0) 24 rfl Try.underlying90 info23 rfl (by decide) (by omega) u10 x10_3 y292 [.slice Ao45 y292.length co45] (fun _ => True) (fun k_ => some k_ = (.slice Ao45 y292.length co45 : Value).ownBlock) rfl rfl ?aP (fun k_ hk_ => ((Kd.R_mono (ok' := fun k_ => ((fun _ => True)) k_ ∧ some k_ ≠ (u10 : Value).ownBlock) (Kd.R_apart' (HO294.out) (Kd.S_typed HO_10.out) (by decide)) (fun k_ hk => ⟨trivial, hk.2⟩))).1 k_ hk_.symm) ?aF ?aO ?aB ?aS ?aL ?_
                 (case aP => exact Kd.M_row (Kd.R_mono (Kd.R_tight rfl (Kd.R_mono (ok' := fun k_ => ((fun _ => True)) k_ ∧ some k_ ≠ (u10 : Value).ownBlock) (Kd.R_apart' (HO294.out) (Kd.S_typed HO_10.out) (by decide)) (fun k_ hk => ⟨trivial, hk.2⟩))) (fun _ h_ => h_)))
                 (case aB => exact (by repeat (first | (with_reducible first | exact HB.out | apply bwA | apply bwN | apply bwD | refine below_set ?_ GE283.out) | exact HB.out)))
                 (case aF => exact (fun _ _ => trivial))
                 (case aO => exact (by (with_reducible repeat (first | apply Kd.S_alloc | apply Kd.S_drewN | apply Kd.S_drew)); exact Kd.S_mono HO_10.out (fun k_ hk => ⟨trivial, fun e_ => hk.2 e_⟩)))
                 (case aS => exact (below_size (by repeat (first | (with_reducible first | exact HB.out | apply bwA | apply bwN | apply bwD | refine below_set ?_ GE283.out) | exact HB.out))))
                 (case aL => have := LMc37.out; omega)
                 intro v296 w44 ho hb hg hat
                 rw [← Ny295.out] at ho
                 have n0_ := Aside0.mk (blk_grown (g := gb283) (o := .cells #[.int .i64 ((rd_T73 l0 x11_3).f0), .int .i64 ((rd_T73 l0 x11_3).f1), .int .i64 ((rd_T73 l0 x11_3).f2), .int .i64 ((rd_T73 l0 x11_3).f3)] 73 (0, 0)) (by (with_reducible repeat (first | refine blk_drewN ?_ _ | refine blk_drew ?_ | refine blk_alloc ?_ _)); exact BK283.out) hg (Kd.S_ne HO_10.out BK283.out (by decide)))
                 have n1_ := Aside0.mk (hb)
                 have n2_ := Aside0.mk (ho)
                 clear BK283
                 clear HB
                 clear HO_10
                 clear HO294
                 have BK283 := n0_
                 have HB := n1_
                 have HO297 := n2_
                 clear n0_ n1_ n2_
                 clear ho hb hg hat
                 refine hK.out _ _ ⟨(blk_cell BK283.out 0).trans rfl, (blk_cell BK283.out 1).trans rfl, (blk_cell BK283.out 2).trans rfl, (blk_cell BK283.out 3).trans rfl, ((HB.out.cell (World.block_lt_of_cell? w _ hw290_0)).trans hw290_0), ((HB.out.cell (World.block_lt_of_cell? w _ hw291_0)).trans hw291_0)⟩ (fun hHeld => ?_)
                 clear hK K
                 refine norm_ (a' := ?_) ?_ ?_
                 rotate_left
                 ·show Act.put _ (some 89) _ = _
                  simp only [Act.put, List.setIfInBounds_toArray, List.set_cons_zero, List.set_cons_succ, i64_w, i32_w]
                  rfl
                 refine Pt.pu 14 (some 10) (Pt.bm 15 32767) (any_of HT_.out (by kernel_rfl)) ?_
                 refine done_ (done_of HT_.out (by kernel_rfl)) ?_
                 try go_wp2
                 go_roundg k3
                 case measure => have := HJ3.out; have := HK2.out; have := HK3.out; omega
                 case rel => exact ⟨(y295), (wrap64 (x11_3 + 1)), (by first | rfl | (simp; done) | (simp [*]; done)), H', ⟨by have := HJ3.out; have := HK2.out; have := HK3.out; omega⟩, ⟨by (with_reducible repeat (first | apply Kd.S_alloc | apply Kd.S_drewN | apply Kd.S_drew)); exact HO297.out⟩, ⟨by repeat (first | (with_reducible first | exact HB.out | apply bwA | apply bwN | apply bwD | refine below_set ?_ GE283.out) | exact HB.out)⟩⟩
                ·rw [if_neg c37] at H
                 exact absurd H (by simp)
               ·rw [if_neg c36] at H
                exact absurd H (by simp)
              ·rw [if_neg c35] at H
               exact absurd H (by simp)
             ·rw [if_neg c34] at H
              exact absurd H (by simp)
            ·rw [if_neg c33] at H
             have c33b0 : (((rd_T73 l0 x11_3).f0) == 1) = false := beq_eq_false_iff_ne.mpr c33
             have c33b1 : (((rd_T73 l0 x11_3).f0) != 1) = true := bne_iff_ne.mpr c33
             by_cases c46 : 0 ≤ ((rd_T73 l0 x11_3).f2)
             ·rw [if_pos c46] at H
              have c46b0 : decide (0 ≤ ((rd_T73 l0 x11_3).f2)) = true := decide_eq_true c46
              clear c46
              by_cases c47 : ((rd_T73 l0 x11_3).f2) < (x10_3.length : Int)
              ·rw [if_pos c47] at H
               have c47b0 : decide (((rd_T73 l0 x11_3).f2) < (x10_3.length : Int)) = true := decide_eq_true c47
               clear c47
               by_cases c48 : 0 ≤ ((rd_T73 l0 x11_3).f3)
               ·rw [if_pos c48] at H
                have c48b0 : decide (0 ≤ ((rd_T73 l0 x11_3).f3)) = true := decide_eq_true c48
                clear c48
                by_cases c49 : ((rd_T73 l0 x11_3).f3) < (x10_3.length : Int)
                ·rw [if_pos c49] at H
                 have c49b0 : decide (((rd_T73 l0 x11_3).f3) < (x10_3.length : Int)) = true := decide_eq_true c49
                 clear c49
                 replace H := Option.bind_eq_some_iff.mp H
                 obtain ⟨t300, A500, H⟩ := H
                 replace H : (if x10_3.length < 5864062014805 then (spec_RangeOf.l1 k3 l0 l1 l2 (x10_3 ++ [t300]) (wrap64 (x11_3 + 1))) else (none)) = some (r1, r2, r3) := H
                 have A50 := Aside0.mk A500
                 clear A500
                 by_cases c51 : x10_3.length < 5864062014805
                 ·rw [if_pos c51] at H
                  have LMc51 := Aside0.mk c51
                  clear c51
                  obtain ⟨y303, hy303⟩ : ∃ y_ : List (List Int), y_ = (x10_3 ++ [t300]) := ⟨_, rfl⟩
                  replace H : (spec_RangeOf.l1 k3 l0 l1 l2 y303 (wrap64 (x11_3 + 1))) = some (r1, r2, r3) := by first | (rw [hy303]; with_reducible exact H) | (have H2_ := (Option.bind_some _ _).symm.trans H; rw [hy303]; with_reducible exact H2_) | (have H2_ := (Option.bind_some _ _).symm.trans H; with_reducible exact H2_) | with_reducible exact H | (rw [hy303]; exact H) | exact H
                  have Ny303 := Aside0.mk hy303
                  clear hy303
                  have H' := Aside0.mk H
                  clear H
                  have p282 : 0 ≤ (x11_3 : Int) := of_decide_eq_true (by first | (with_reducible assumption) | assumption)
                  have q282 : x11_3 < (l0.length : Int) := of_decide_eq_true (by first | (with_reducible assumption) | assumption)
                  obtain ⟨ad282, e282, hx282_0, hx282_1, hx282_2, hx282_3⟩ := at_T73 HR0.out x11_3 p282 q282
                  cases e282
                  try replace hx282_0 := (HB.out.cell (World.block_lt_of_cell? w _ hx282_0)).trans hx282_0
                  try replace hx282_1 := (HB.out.cell (World.block_lt_of_cell? w _ hx282_1)).trans hx282_1
                  try replace hx282_2 := (HB.out.cell (World.block_lt_of_cell? w _ hx282_2)).trans hx282_2
                  try replace hx282_3 := (HB.out.cell (World.block_lt_of_cell? w _ hx282_3)).trans hx282_3
                  replace p282 := eq_true p282
                  replace q282 := eq_true q282
                  try go_wp2_with (first | ((with_reducible refine gate_dst (N := 12) rfl ?_); (try (refine gate_guard (by rfl) ?_; dsimp only)); refine box_event ?hg (N := 12) ?hd (cs := #[.int .i64 0, .int .i64 0, .int .i64 0, .int .i64 0]) (t := 73) ?hr ?_; (case hd => rfl); (case hg => rfl); (case hr => first | (go_simp; done) | (go_simp; rfl)); intro gb283 hg w52 hbox hb; have n0_ := Aside0.mk (Kd.S_below (by (with_reducible repeat (first | apply Kd.S_alloc | apply Kd.S_drewN | apply Kd.S_drew)); exact HO_10.out) hb); have n1_ := Aside0.mk (below_step (by repeat (first | (with_reducible first | exact HB.out | apply bwA | apply bwN | apply bwD) | exact HB.out)) hb); have n2_ := Aside0.mk (hbox); have n3_ := Aside0.mk ((by rw [hg]; exact (below_size (by repeat (first | (with_reducible first | exact HB.out | apply bwA | apply bwN | apply bwD) | exact HB.out))) : w.heap.size ≤ gb283)); have n4_ := Aside0.mk ((by rw [hg]; exact (below_size (by repeat (first | (with_reducible first | exact HB.out | apply bwA | apply bwN | apply bwD) | exact HB.out))) : w.heap.size ≤ gb283)); clear HO_10; clear HB; have HO_10 := n0_; have HB := n1_; have BK283 := n2_; have GW283 := n3_; have GE283 := n4_; clear n0_ n1_ n2_ n3_ n4_; clear hb hbox hg; have hcz53_0 : w52.cell? ⟨gb283, 0, none⟩ = some (.int .i64 0) := (blk_cell BK283.out 0).trans rfl; have hcz53_1 : w52.cell? ⟨gb283, 1, none⟩ = some (.int .i64 0) := (blk_cell BK283.out 1).trans rfl; have hcz53_2 : w52.cell? ⟨gb283, 2, none⟩ = some (.int .i64 0) := (blk_cell BK283.out 2).trans rfl; have hcz53_3 : w52.cell? ⟨gb283, 3, none⟩ = some (.int .i64 0) := (blk_cell BK283.out 3).trans rfl; have hfz53_0 := blk_frozen BK283.out 0; have hfz53_1 := blk_frozen BK283.out 1; have hfz53_2 := blk_frozen BK283.out 2; have hfz53_3 := blk_frozen BK283.out 3))
                  have n0_ : Aside0 (Kd.S (Kd.slice 3 (Kd.int .i64)) 23 ((((w52.setCell ⟨gb283, 0, none⟩ (.int .i64 ((rd_T73 l0 x11_3).f0))).setCell ⟨gb283, 1, none⟩ (.int .i64 ((rd_T73 l0 x11_3).f1))).setCell ⟨gb283, 2, none⟩ (.int .i64 ((rd_T73 l0 x11_3).f2))).setCell ⟨gb283, 3, none⟩ (.int .i64 ((rd_T73 l0 x11_3).f3))) w.heap.size (fun _ => True) u10 x10_3) := ⟨by (with_reducible repeat (first | apply Kd.S_alloc | apply Kd.S_drewN | apply Kd.S_drew)); exact Kd.S_mono (Kd.S_far (p := ⟨gb283, 3, none⟩) (Kd.S_far (p := ⟨gb283, 2, none⟩) (Kd.S_far (p := ⟨gb283, 1, none⟩) (Kd.S_far (p := ⟨gb283, 0, none⟩) (Kd.S_types HO_10.out BK283.out (by decide)) (fun _ hk => hk.2) (.int .i64 ((rd_T73 l0 x11_3).f0))) (fun _ hk => hk.2) (.int .i64 ((rd_T73 l0 x11_3).f1))) (fun _ hk => hk.2) (.int .i64 ((rd_T73 l0 x11_3).f2))) (fun _ hk => hk.2) (.int .i64 ((rd_T73 l0 x11_3).f3))) (fun _ hk => trivial)⟩
                  have n1_ : Aside0 (((((w52.setCell ⟨gb283, 0, none⟩ (.int .i64 ((rd_T73 l0 x11_3).f0))).setCell ⟨gb283, 1, none⟩ (.int .i64 ((rd_T73 l0 x11_3).f1))).setCell ⟨gb283, 2, none⟩ (.int .i64 ((rd_T73 l0 x11_3).f2))).setCell ⟨gb283, 3, none⟩ (.int .i64 ((rd_T73 l0 x11_3).f3))).heap[gb283]? = some (.cells #[.int .i64 ((rd_T73 l0 x11_3).f0), .int .i64 ((rd_T73 l0 x11_3).f1), .int .i64 ((rd_T73 l0 x11_3).f2), .int .i64 ((rd_T73 l0 x11_3).f3)] 73 (0, 0))) := ⟨by (with_reducible repeat (first | refine blk_drewN ?_ _ | refine blk_drew ?_ | refine blk_alloc ?_ _)); refine blk_put (cs := #[.int .i64 ((rd_T73 l0 x11_3).f0), .int .i64 ((rd_T73 l0 x11_3).f1), .int .i64 ((rd_T73 l0 x11_3).f2), .int .i64 0]) ?_ 3 _ rfl; (with_reducible repeat (first | refine blk_drewN ?_ _ | refine blk_drew ?_ | refine blk_alloc ?_ _)); refine blk_put (cs := #[.int .i64 ((rd_T73 l0 x11_3).f0), .int .i64 ((rd_T73 l0 x11_3).f1), .int .i64 0, .int .i64 0]) ?_ 2 _ rfl; (with_reducible repeat (first | refine blk_drewN ?_ _ | refine blk_drew ?_ | refine blk_alloc ?_ _)); refine blk_put (cs := #[.int .i64 ((rd_T73 l0 x11_3).f0), .int .i64 0, .int .i64 0, .int .i64 0]) ?_ 1 _ rfl; (with_reducible repeat (first | refine blk_drewN ?_ _ | refine blk_drew ?_ | refine blk_alloc ?_ _)); refine blk_put (cs := #[.int .i64 0, .int .i64 0, .int .i64 0, .int .i64 0]) ?_ 0 _ rfl; (with_reducible repeat (first | refine blk_drewN ?_ _ | refine blk_drew ?_ | refine blk_alloc ?_ _)); exact BK283.out⟩
                  have n2_ : Aside0 (Below w.heap.size w ((((w52.setCell ⟨gb283, 0, none⟩ (.int .i64 ((rd_T73 l0 x11_3).f0))).setCell ⟨gb283, 1, none⟩ (.int .i64 ((rd_T73 l0 x11_3).f1))).setCell ⟨gb283, 2, none⟩ (.int .i64 ((rd_T73 l0 x11_3).f2))).setCell ⟨gb283, 3, none⟩ (.int .i64 ((rd_T73 l0 x11_3).f3)))) := ⟨by repeat (first | (with_reducible first | exact HB.out | apply bwA | apply bwN | apply bwD | refine below_set ?_ GE283.out) | exact HB.out)⟩
                  (try clear HO_10)
                  (try clear BK283)
                  (try clear HB)
                  generalize ((((w52.setCell ⟨gb283, 0, none⟩ (.int .i64 ((rd_T73 l0 x11_3).f0))).setCell ⟨gb283, 1, none⟩ (.int .i64 ((rd_T73 l0 x11_3).f1))).setCell ⟨gb283, 2, none⟩ (.int .i64 ((rd_T73 l0 x11_3).f2))).setCell ⟨gb283, 3, none⟩ (.int .i64 ((rd_T73 l0 x11_3).f3))) = w54 at n0_ n1_ n2_ ⊢
                  have HO_10 := n0_
                  have BK283 := n1_
                  have HB := n2_
                  clear n0_ n1_ n2_
                  have n0_ := Aside0.mk (Kd.S_drew HO_10.out)
                  have n1_ := Aside0.mk (blk_drew BK283.out)
                  have n2_ := Aside0.mk (below_drew1 HB.out)
                  clear HO_10
                  clear BK283
                  clear HB
                  have HO_10 := n0_
                  have BK283 := n1_
                  have HB := n2_
                  clear n0_ n1_ n2_
                  obtain ⟨Ao56, co56, eo56⟩ := Kd.S_slice HO_10.out
                  (first | subst eo56 | (injection eo56 with f1_ f2_ f3_; have f4_ := f1_.symm; have f5_ := f3_.symm; clear f1_ f2_ f3_; subst f4_; subst f5_))
                  have p298 : 0 ≤ (((rd_T73 l0 x11_3).f2) : Int) := of_decide_eq_true (by first | (with_reducible assumption) | assumption)
                  have q298 : ((rd_T73 l0 x11_3).f2) < (x10_3.length : Int) := of_decide_eq_true (by first | (with_reducible assumption) | assumption)
                  obtain ⟨ad298, A298_0, c298_0, e298, hx298_0, hl298_0, hi298_0⟩ := at_L3 (Kd.S_reads' HO_10.out).2.2 ((rd_T73 l0 x11_3).f2) p298 q298
                  cases e298
                  obtain ⟨ce298, hce298, hMe298, hcc298⟩ := Kd.S_get HO_10.out [] ((rd_T73 l0 x11_3).f2) p298 (by first | exact q298 | exact of_decide_eq_true (by first | (with_reducible assumption) | assumption) | (have e_ := (Kd.S_reads' HO_10.out).1; omega))
                  obtain ⟨ve298_0, rfl, ge298_0⟩ := hMe298
                  have hv298_0 := hcc298 0 _ rfl
                  rw [Nat.add_zero, show ((Kd.slice 3 (Kd.int .i64))).sz = 1 from rfl, Nat.mul_one] at hv298_0
                  replace hv298_0 := Option.some.inj (hv298_0.symm.trans hx298_0)
                  rw [hv298_0] at ge298_0
                  have HL298_0 := Aside0.mk (show Kd.R (Kd.int .i64) 3 _ _ _ _ (rd_L3 x10_3 ((rd_T73 l0 x11_3).f2)) from ge298_0)
                  clear hv298_0 ge298_0
                  clear hcc298 hce298
                  have HR298_0 := Aside0.mk hi298_0
                  have HC298_0 := Aside0.mk hl298_0
                  clear hi298_0 hl298_0
                  replace p298 := eq_true p298
                  replace q298 := eq_true q298
                  have p299 : 0 ≤ (((rd_T73 l0 x11_3).f3) : Int) := of_decide_eq_true (by first | (with_reducible assumption) | assumption)
                  have q299 : ((rd_T73 l0 x11_3).f3) < (x10_3.length : Int) := of_decide_eq_true (by first | (with_reducible assumption) | assumption)
                  obtain ⟨ad299, A299_0, c299_0, e299, hx299_0, hl299_0, hi299_0⟩ := at_L3 (Kd.S_reads' HO_10.out).2.2 ((rd_T73 l0 x11_3).f3) p299 q299
                  obtain rfl : ad298 = ad299 := (by injection e299)
                  obtain ⟨ce299, hce299, hMe299, hcc299⟩ := Kd.S_get HO_10.out [] ((rd_T73 l0 x11_3).f3) p299 (by first | exact q299 | exact of_decide_eq_true (by first | (with_reducible assumption) | assumption) | (have e_ := (Kd.S_reads' HO_10.out).1; omega))
                  obtain ⟨ve299_0, rfl, ge299_0⟩ := hMe299
                  have hv299_0 := hcc299 0 _ rfl
                  rw [Nat.add_zero, show ((Kd.slice 3 (Kd.int .i64))).sz = 1 from rfl, Nat.mul_one] at hv299_0
                  replace hv299_0 := Option.some.inj (hv299_0.symm.trans hx299_0)
                  rw [hv299_0] at ge299_0
                  have HL299_0 := Aside0.mk (show Kd.R (Kd.int .i64) 3 _ _ _ _ (rd_L3 x10_3 ((rd_T73 l0 x11_3).f3)) from ge299_0)
                  clear hv299_0 ge299_0
                  clear hcc299 hce299
                  have HR299_0 := Aside0.mk hi299_0
                  have HC299_0 := Aside0.mk hl299_0
                  clear hi299_0 hl299_0
                  replace p299 := eq_true p299
                  replace q299 := eq_true q299
                  refine start_ (n := 17) (S := fun w' => w'.cell? ⟨gb283, 0, none⟩ = some (.int .i64 ((rd_T73 l0 x11_3).f0)) ∧ w'.cell? ⟨gb283, 1, none⟩ = some (.int .i64 ((rd_T73 l0 x11_3).f1)) ∧ w'.cell? ⟨gb283, 2, none⟩ = some (.int .i64 ((rd_T73 l0 x11_3).f2)) ∧ w'.cell? ⟨gb283, 3, none⟩ = some (.int .i64 ((rd_T73 l0 x11_3).f3)) ∧ w'.cell? (ad298.add (((rd_T73 l0 x11_3).f2)).toNat) = some (.slice A298_0 (rd_L3 x10_3 ((rd_T73 l0 x11_3).f2)).length c298_0) ∧ w'.cell? (ad298.add (((rd_T73 l0 x11_3).f3)).toNat) = some (.slice A299_0 (rd_L3 x10_3 ((rd_T73 l0 x11_3).f3)).length c299_0)) (ds := [14, 15]) (Pt.bm 17 0) (by kernel_rfl) rfl rfl ⟨(blk_cell BK283.out 0).trans rfl, (blk_cell BK283.out 1).trans rfl, (blk_cell BK283.out 2).trans rfl, (blk_cell BK283.out 3).trans rfl, hx298_0, hx299_0⟩ (fun hHeld => ?_); refine with_tabW spec_RangeOf.tab17 spec_RangeOf.bits17 (fun HT_ HW_ => ?_)
                  generalize w54.drew = w55 at HO_10 BK283 HB HL298_0 HL299_0 HR298_0 HR299_0 hx298_0 hx299_0 hHeld ⊢
                  refine Pt.pu 0 (some 90) (Pt.bm 17 1) (any_of HT_.out (by kernel_rfl)) ?_
                  refine Pt.pu 1 (some 91) (Pt.bm 17 3) (any_of HT_.out (by kernel_rfl)) ?_
                  refine Pt.pu 3 (some 93) (Pt.bm 17 11) (any_of HT_.out (by kernel_rfl)) ?_
                  refine Pt.pu 4 (some 94) (Pt.bm 17 27) (any_of HT_.out (by kernel_rfl)) ?_
                  refine Pt.pu 8 (some 98) (Pt.bm 17 283) (any_of HT_.out (by kernel_rfl)) ?_
                  refine Pt.pu 9 (some 99) (Pt.bm 17 795) (any_of HT_.out (by kernel_rfl)) ?_
                  refine Pt.tk 2 (some 92) (Pt.bm 17 799) rfl rfl (take_ofW HT_.out HW_.out (by kernel_rfl)) hHeld (Or.inl ⟨by rfl, by rintro w' ⟨s0, s1, s2, s3, s4, s5⟩; go_simp; with_reducible rfl⟩) ?_
                  refine Pt.tk 5 (some 95) (Pt.bm 17 831) rfl rfl (take_ofW HT_.out HW_.out (by kernel_rfl)) hHeld (Or.inl ⟨by rfl, by rintro w' ⟨s0, s1, s2, s3, s4, s5⟩; go_simp; with_reducible rfl⟩) ?_
                  refine Pt.pu 6 (some 96) (Pt.bm 17 895) (any_of HT_.out (by kernel_rfl)) ?_
                  refine Pt.tk 7 (some 97) (Pt.bm 17 1023) rfl rfl (take_ofW HT_.out HW_.out (by kernel_rfl)) hHeld (Or.inl ⟨by rfl, by rintro w' ⟨s0, s1, s2, s3, s4, s5⟩; go_simp; with_reducible rfl⟩) ?_
                  refine Pt.tk 10 (some 100) (Pt.bm 17 2047) rfl rfl (take_ofW HT_.out HW_.out (by kernel_rfl)) hHeld (Or.inl ⟨by rfl, by rintro w' ⟨s0, s1, s2, s3, s4, s5⟩; go_simp; with_reducible rfl⟩) ?_
                  refine Pt.pu 11 (some 101) (Pt.bm 17 4095) (any_of HT_.out (by kernel_rfl)) ?_
                  refine Pt.tk 12 (some 102) (Pt.bm 17 8191) rfl rfl (take_ofW HT_.out HW_.out (by kernel_rfl)) hHeld (Or.inl ⟨by rfl, by rintro w' ⟨s0, s1, s2, s3, s4, s5⟩; go_simp; with_reducible rfl⟩) ?_
                  refine one_ (i := 13) (N := some 103) (Pt.bm 17 16383) rfl rfl (one_of HT_.out (by kernel_rfl)) (by decide) (fun K hK => ?_)
                  refine goes_ Try.func74 (by kernel_rfl) rfl #[.int .i64 ((rd_T73 l0 x11_3).f0), .slice A298_0 (rd_L3 x10_3 ((rd_T73 l0 x11_3).f2)).length c298_0, .slice A299_0 (rd_L3 x10_3 ((rd_T73 l0 x11_3).f3)).length c299_0] (by rfl) rfl rfl (by (try simp only [List.map_toArray, List.map_cons, List.map_nil]); first | done | rfl | (simp only [List.length_drop, List.length_take]; rfl)) ?_
                  with_reducible refine (spec_l1Between.calls k3 ((rd_T73 l0 x11_3).f0) _ _ (rd_L3 x10_3 ((rd_T73 l0 x11_3).f2)) _ _ (rd_L3 x10_3 ((rd_T73 l0 x11_3).f3)) t300 _ ?side1 ?side2 ?side3 ?side4 A50.out).mono ?_
                  (case side1 => repeat (first | exact (by repeat (first | (with_reducible exact HR298_0.out) | (with_reducible refine Kd.C_alloc ?_ _) | (with_reducible refine Kd.C_drewN ?_ _) | (with_reducible refine Kd.C_drew ?_) | exact HR298_0.out)) | (with_reducible refine Kd.C_alloc ?_ _) | (with_reducible refine Kd.C_drewN ?_ _) | (with_reducible refine Kd.C_drew ?_)))
                  (case side2 => exact HC298_0.out)
                  (case side3 => repeat (first | exact (by repeat (first | (with_reducible exact HR299_0.out) | (with_reducible refine Kd.C_alloc ?_ _) | (with_reducible refine Kd.C_drewN ?_ _) | (with_reducible refine Kd.C_drew ?_) | exact HR299_0.out)) | (with_reducible refine Kd.C_alloc ?_ _) | (with_reducible refine Kd.C_drewN ?_ _) | (with_reducible refine Kd.C_drew ?_)))
                  (case side4 => exact HC299_0.out)
                  rintro e w57 ⟨v301, rfl, ho0, hb⟩
                  have HS4_ := (hb.cell (World.block_lt_of_cell? _ _ (hHeld.2.2.2.2.1))).trans (hHeld.2.2.2.2.1)
                  have HS5_ := (hb.cell (World.block_lt_of_cell? _ _ (hHeld.2.2.2.2.2))).trans (hHeld.2.2.2.2.2)
                  refine ⟨_, rfl, ?_⟩
                  have n0_ := Aside0.mk (Kd.S_elder' (by (with_reducible repeat (first | apply Kd.S_alloc | apply Kd.S_drewN | apply Kd.S_drew)); exact HO_10.out) (Kd.R_base ho0) hb)
                  have n1_ := Aside0.mk (Kd.R_elder' (by (with_reducible repeat (first | apply Kd.R_alloc | apply Kd.R_drewN | apply Kd.R_drew)); exact HL298_0.out) (Kd.R_base ho0) hb)
                  have n2_ := Aside0.mk (Kd.R_elder' (by (with_reducible repeat (first | apply Kd.R_alloc | apply Kd.R_drewN | apply Kd.R_drew)); exact HL299_0.out) (Kd.R_base ho0) hb)
                  have n3_ := Aside0.mk (Kd.R_lower (Kd.R_new' (Kd.R_new' ho0 (Kd.R_lt (by (with_reducible repeat (first | apply Kd.R_alloc | apply Kd.R_drewN | apply Kd.R_drew)); exact HL298_0.out))) (Kd.R_lt (by (with_reducible repeat (first | apply Kd.R_alloc | apply Kd.R_drewN | apply Kd.R_drew)); exact HL299_0.out))) (below_size (by repeat (first | (with_reducible first | exact HB.out | apply bwA | apply bwN | apply bwD | refine below_set ?_ GE283.out) | exact HB.out))))
                  have n4_ := Aside0.mk (blk_below (g := gb283) (o := .cells #[.int .i64 ((rd_T73 l0 x11_3).f0), .int .i64 ((rd_T73 l0 x11_3).f1), .int .i64 ((rd_T73 l0 x11_3).f2), .int .i64 ((rd_T73 l0 x11_3).f3)] 73 (0, 0)) (by (with_reducible repeat (first | refine blk_drewN ?_ _ | refine blk_drew ?_ | refine blk_alloc ?_ _)); exact BK283.out) hb)
                  have n5_ := Aside0.mk (Kd.C_below (by repeat (first | (with_reducible exact HR298_0.out) | (with_reducible refine Kd.C_alloc ?_ _) | (with_reducible refine Kd.C_drewN ?_ _) | (with_reducible refine Kd.C_drew ?_) | exact HR298_0.out)) hb)
                  have n6_ := Aside0.mk (Kd.C_below (by repeat (first | (with_reducible exact HR299_0.out) | (with_reducible refine Kd.C_alloc ?_ _) | (with_reducible refine Kd.C_drewN ?_ _) | (with_reducible refine Kd.C_drew ?_) | exact HR299_0.out)) hb)
                  have n7_ := Aside0.mk (below_step (by repeat (first | (with_reducible first | exact HB.out | apply bwA | apply bwN | apply bwD | refine below_set ?_ GE283.out) | exact HB.out)) hb)
                  clear HO_10
                  clear HL298_0
                  clear HL299_0
                  clear BK283
                  clear HR298_0
                  clear HR299_0
                  clear HB
                  have HO_10 := n0_
                  have HL298_0 := n1_
                  have HL299_0 := n2_
                  have HO302 := n3_
                  have BK283 := n4_
                  have HR298_0 := n5_
                  have HR299_0 := n6_
                  have HB := n7_
                  clear n0_ n1_ n2_ n3_ n4_ n5_ n6_ n7_
                  (try clear hb)
                  (try clear hb2)
                  (try clear hk)
                  (try clear hi)
                  (try clear ho0)
                  obtain ⟨Ao59, co59, eo59⟩ := Kd.R_slice HO302.out
                  (first | subst eo59 | (injection eo59 with f1_ f2_ f3_; have f4_ := f1_.symm; have f5_ := f3_.symm; clear f1_ f2_ f3_; subst f4_; subst f5_))
                  refine hK.out _ _ ⟨(blk_cell BK283.out 0).trans rfl, (blk_cell BK283.out 1).trans rfl, (blk_cell BK283.out 2).trans rfl, (blk_cell BK283.out 3).trans rfl, HS4_, HS5_⟩ (fun hHeld => ?_)
                  clear hK K
                  refine norm_ (a' := ?_) ?_ ?_
                  rotate_left
                  ·show Act.put _ (some 103) _ = _
                   simp only [Act.put, List.setIfInBounds_toArray, List.set_cons_zero, List.set_cons_succ, i64_w, i32_w]
                   rfl
                  refine last_ (i := 14) (N := some 104) (Pt.bm 17 32767) rfl rfl (one_of HT_.out (by kernel_rfl)) (by decide) (fun K hK => ?_)
                  refine value_ (w1 := ?_) (v := ?_) (by rfl) rfl ?_ ?_
                  rotate_left 2
                  ·go_simp
                   constructor
                   ·rfl
                   ·rfl
                  refine hK.out _ _ ?_
                  clear hK K
                  refine norm_ (a' := ?_) ?_ ?_
                  rotate_left
                  ·show Act.put _ (some 104) _ = _
                   simp only [Act.put, List.setIfInBounds_toArray, List.set_cons_zero, List.set_cons_succ, i64_w, i32_w]
                   rfl
                  refine last_ (i := 15) (N := some 105) (Pt.bm 17 65535) rfl rfl (one_of HT_.out (by kernel_rfl)) (by decide) (fun K hK => ?_)
                  refine Kd.S_append_step (Kd.slice 3 (Kd.int .i64)) (w0 := w) w.heap.size (by rfl) (.tmp 90) (.tmp 104) 90 23 (.slice none 0 0) 24 rfl Try.underlying90 info23 rfl (by decide) (by omega) (.slice (some ad298) x10_3.length co56) x10_3 t300 [.slice Ao59 t300.length co59] (fun _ => True) (fun k_ => some k_ = (.slice Ao59 t300.length co59 : Value).ownBlock) rfl rfl ?aP (fun k_ hk_ => ((Kd.R_mono (ok' := fun k_ => ((fun _ => True)) k_ ∧ some k_ ≠ (.slice (some ad298) x10_3.length co56 : Value).ownBlock) (Kd.R_apart' (HO302.out) (Kd.S_typed HO_10.out) (by decide)) (fun k_ hk => ⟨trivial, hk.2⟩))).1 k_ hk_.symm) ?aF ?aO ?aB ?aS ?aL ?_
                  (case aP => exact Kd.M_row (Kd.R_mono (Kd.R_tight rfl (Kd.R_mono (ok' := fun k_ => ((fun _ => True)) k_ ∧ some k_ ≠ (.slice (some ad298) x10_3.length co56 : Value).ownBlock) (Kd.R_apart' (HO302.out) (Kd.S_typed HO_10.out) (by decide)) (fun k_ hk => ⟨trivial, hk.2⟩))) (fun _ h_ => h_)))
                  (case aB => exact (by repeat (first | (with_reducible first | exact HB.out | apply bwA | apply bwN | apply bwD | refine below_set ?_ GE283.out) | exact HB.out)))
                  (case aF => exact (fun _ _ => trivial))
                  (case aO => exact (by (with_reducible repeat (first | apply Kd.S_alloc | apply Kd.S_drewN | apply Kd.S_drew)); exact Kd.S_mono HO_10.out (fun k_ hk => ⟨trivial, fun e_ => hk.2 e_⟩)))
                  (case aS => exact (below_size (by repeat (first | (with_reducible first | exact HB.out | apply bwA | apply bwN | apply bwD | refine below_set ?_ GE283.out) | exact HB.out))))
                  (case aL => have := LMc51.out; omega)
                  intro v304 w58 ho hb hg hat
                  rw [← Ny303.out] at ho
                  have n0_ := Aside0.mk (blk_grown (g := gb283) (o := .cells #[.int .i64 ((rd_T73 l0 x11_3).f0), .int .i64 ((rd_T73 l0 x11_3).f1), .int .i64 ((rd_T73 l0 x11_3).f2), .int .i64 ((rd_T73 l0 x11_3).f3)] 73 (0, 0)) (by (with_reducible repeat (first | refine blk_drewN ?_ _ | refine blk_drew ?_ | refine blk_alloc ?_ _)); exact BK283.out) hg (Kd.S_ne HO_10.out BK283.out (by decide)))
                  have n1_ := Aside0.mk (Kd.R_after (ok := (fun k_ => some k_ ≠ (.slice Ao59 t300.length co59 : Value).ownBlock)) (by (with_reducible repeat (first | apply Kd.R_alloc | apply Kd.R_drewN | apply Kd.R_drew)); exact Kd.R_mono HL298_0.out (fun _ hk => ⟨hk.2, hk.1.2⟩)) hg hat)
                  have n2_ := Aside0.mk (Kd.R_after (ok := (fun k_ => some k_ ≠ (.slice Ao59 t300.length co59 : Value).ownBlock)) (by (with_reducible repeat (first | apply Kd.R_alloc | apply Kd.R_drewN | apply Kd.R_drew)); exact Kd.R_mono HL299_0.out (fun _ hk => ⟨hk.2, hk.1.2⟩)) hg hat)
                  have n3_ := Aside0.mk (hb)
                  have n4_ := Aside0.mk (ho)
                  clear BK283
                  clear HL298_0
                  clear HL299_0
                  clear HB
                  clear HO_10
                  clear HO302
                  have BK283 := n0_
                  have HL298_0 := n1_
                  have HL299_0 := n2_
                  have HB := n3_
                  have HO305 := n4_
                  clear n0_ n1_ n2_ n3_ n4_
                  clear ho hb hg hat
                  refine hK.out _ _ ?_
                  clear hK K
                  refine norm_ (a' := ?_) ?_ ?_
                  rotate_left
                  ·show Act.put _ (some 105) _ = _
                   simp only [Act.put, List.setIfInBounds_toArray, List.set_cons_zero, List.set_cons_succ, i64_w, i32_w]
                   rfl
                  refine Pt.pu 16 (some 10) (Pt.bm 17 131071) (any_of HT_.out (by kernel_rfl)) ?_
                  refine done_ (done_of HT_.out (by kernel_rfl)) ?_
                  try go_wp2
                  go_roundg k3
                  case measure => have := HJ3.out; have := HK2.out; have := HK3.out; omega
                  case rel => exact ⟨(y303), (wrap64 (x11_3 + 1)), (by first | rfl | (simp; done) | (simp [*]; done)), H', ⟨by have := HJ3.out; have := HK2.out; have := HK3.out; omega⟩, ⟨by (with_reducible repeat (first | apply Kd.S_alloc | apply Kd.S_drewN | apply Kd.S_drew)); exact HO305.out⟩, ⟨by repeat (first | (with_reducible first | exact HB.out | apply bwA | apply bwN | apply bwD | refine below_set ?_ GE283.out) | exact HB.out)⟩⟩
                 ·rw [if_neg c51] at H
                  exact absurd H (by simp)
                ·rw [if_neg c49] at H
                 exact absurd H (by simp)
               ·rw [if_neg c48] at H
                exact absurd H (by simp)
              ·rw [if_neg c47] at H
               exact absurd H (by simp)
             ·rw [if_neg c46] at H
              exact absurd H (by simp)
          ·rw [if_neg c24] at H
           exact absurd H (by simp)
         ·rw [if_neg c23] at H
          have c23b0 : decide (x11_3 < (l0.length : Int)) = false := decide_eq_false c23
          clear c23
          obtain ⟨ji60, hji60⟩ : ∃ j_ : Int, (wrap64 ((x10_3.length : Int) - 1)) = j_ := ⟨_, rfl⟩
          replace H : (if 0 ≤ (ji60) then (if (ji60) < (x10_3.length : Int) then (if 0 < ((rd_L3 x10_3 (ji60)).length : Int) then (if 1 < ((rd_L3 x10_3 (ji60)).length : Int) then (some (rd (rd_L3 x10_3 (ji60)) 0, rd (rd_L3 x10_3 (ji60)) 1, true)) else (none)) else (none)) else (none)) else (none)) = some (r1, r2, r3) := by first | (rw [hji60] at H; exact H) | (simp only [hji60] at H ⊢; exact H)
          have hji60w : (IntKind.i64.wrap ((x10_3.length : Int) - 1)) = ji60 := (i64_w _).trans hji60
          by_cases c61 : 0 ≤ (ji60)
          ·rw [if_pos c61] at H
           have c61b0 : decide (0 ≤ (ji60)) = true := decide_eq_true c61
           clear c61
           by_cases c62 : (ji60) < (x10_3.length : Int)
           ·rw [if_pos c62] at H
            have c62b0 : decide ((ji60) < (x10_3.length : Int)) = true := decide_eq_true c62
            clear c62
            by_cases c63 : 0 < ((rd_L3 x10_3 (ji60)).length : Int)
            ·rw [if_pos c63] at H
             have c63b0 : decide (0 < ((rd_L3 x10_3 (ji60)).length : Int)) = true := decide_eq_true c63
             have c63b1 : decide (0 < (rd_L3 x10_3 (ji60)).length) = true := decide_eq_true (by omega)
             clear c63
             by_cases c64 : 1 < ((rd_L3 x10_3 (ji60)).length : Int)
             ·rw [if_pos c64] at H
              have c64b0 : decide (1 < ((rd_L3 x10_3 (ji60)).length : Int)) = true := decide_eq_true c64
              have c64b1 : decide (1 < (rd_L3 x10_3 (ji60)).length) = true := decide_eq_true (by omega)
              clear c64
              simp only [Option.some.injEq, Prod.mk.injEq] at H
              obtain ⟨rfl, rfl, rfl⟩ := H
              obtain ⟨Ao65, co65, eo65⟩ := Kd.S_slice HO_10.out
              subst eo65
              have p279 : 0 ≤ ((ji60) : Int) := of_decide_eq_true (by first | (with_reducible assumption) | assumption)
              have q279 : (ji60) < (x10_3.length : Int) := of_decide_eq_true (by first | (with_reducible assumption) | assumption)
              obtain ⟨ad279, A279_0, c279_0, e279, hx279_0, hl279_0, hi279_0⟩ := at_L3 (Kd.S_reads' HO_10.out).2.2 (ji60) p279 q279
              cases e279
              obtain ⟨ce279, hce279, hMe279, hcc279⟩ := Kd.S_get HO_10.out [] (ji60) p279 (by first | exact q279 | exact of_decide_eq_true (by first | (with_reducible assumption) | assumption) | (have e_ := (Kd.S_reads' HO_10.out).1; omega))
              obtain ⟨ve279_0, rfl, ge279_0⟩ := hMe279
              have hv279_0 := hcc279 0 _ rfl
              rw [Nat.add_zero, show ((Kd.slice 3 (Kd.int .i64))).sz = 1 from rfl, Nat.mul_one] at hv279_0
              replace hv279_0 := Option.some.inj (hv279_0.symm.trans hx279_0)
              rw [hv279_0] at ge279_0
              have HL279_0 := Aside0.mk (show Kd.R (Kd.int .i64) 3 _ _ _ _ (rd_L3 x10_3 (ji60)) from ge279_0)
              clear hv279_0 ge279_0
              clear hcc279 hce279
              have HR279_0 := Aside0.mk hi279_0
              have HC279_0 := Aside0.mk hl279_0
              clear hi279_0 hl279_0
              replace p279 := eq_true p279
              replace q279 := eq_true q279
              try go_wp2
              have n0_ := Aside0.mk (Kd.S_drew HO_10.out)
              have n1_ := Aside0.mk (Kd.R_drew HL279_0.out)
              have n2_ := Aside0.mk (Kd.C_drew HR279_0.out)
              have n3_ := Aside0.mk (below_drew1 HB.out)
              clear HO_10
              clear HL279_0
              clear HR279_0
              clear HB
              have HO_10 := n0_
              have HL279_0 := n1_
              have HR279_0 := n2_
              have HB := n3_
              clear n0_ n1_ n2_ n3_
              have p280 : 0 ≤ (0 : Int) := (by omega)
              have q280 : 0 < ((rd_L3 x10_3 (ji60)).length : Int) := of_decide_eq_true (by first | (with_reducible assumption) | assumption)
              obtain ⟨ad280, e280, hx280_0⟩ := Kd.at_int (by repeat (first | (with_reducible exact HR279_0.out) | (with_reducible refine Kd.C_alloc ?_ _) | (with_reducible refine Kd.C_drewN ?_ _) | (with_reducible refine Kd.C_drew ?_) | exact HR279_0.out)) 0 p280 q280
              cases e280
              have qi280 : (0 < (rd_L3 x10_3 (ji60)).length) = True := eq_true (by omega)
              (try rw [show ((0 : Int)).toNat = 0 from rfl] at hx280_0)
              (try rw [Addr.add_zero'] at hx280_0)
              replace p280 := eq_true p280
              replace q280 := eq_true q280
              have p281 : 0 ≤ (1 : Int) := (by omega)
              have q281 : 1 < ((rd_L3 x10_3 (ji60)).length : Int) := of_decide_eq_true (by first | (with_reducible assumption) | assumption)
              obtain ⟨ad281, e281, hx281_0⟩ := Kd.at_int (by repeat (first | (with_reducible exact HR279_0.out) | (with_reducible refine Kd.C_alloc ?_ _) | (with_reducible refine Kd.C_drewN ?_ _) | (with_reducible refine Kd.C_drew ?_) | exact HR279_0.out)) 1 p281 q281
              obtain rfl : ad280 = ad281 := (by injection e281)
              (try simp only [show (1 : Int).toNat = 1 from rfl, Nat.reduceMul, Nat.reduceEqDiff, Go.Addr.add, ↓reduceIte] at hx281_0)
              have qi281 : (1 < (rd_L3 x10_3 (ji60)).length) = True := eq_true (by omega)
              (try rw [show ((1 : Int)).toNat = 1 from rfl] at hx281_0)
              replace p281 := eq_true p281
              replace q281 := eq_true q281
              refine start_ (n := 9) (S := fun w' => w'.cell? ad280 = some (.int .i64 (rd (rd_L3 x10_3 (ji60)) 0)) ∧ w'.cell? ⟨ad280.block, ad280.off + 1, none⟩ = some (.int .i64 (rd (rd_L3 x10_3 (ji60)) 1))) (ds := []) (Pt.bm 9 0) (by kernel_rfl) rfl rfl ⟨hx280_0, hx281_0⟩ (fun hHeld => ?_); refine with_tabW spec_RangeOf.tab19 spec_RangeOf.bits19 (fun HT_ HW_ => ?_)
              generalize wr.drew = w66 at HO_10 HL279_0 HR279_0 HB hx280_0 hx281_0 hHeld ⊢
              refine Pt.pu 0 (some 112) (Pt.bm 9 1) (any_of HT_.out (by kernel_rfl)) ?_
              refine Pt.pu 1 (some 113) (Pt.bm 9 3) (any_of HT_.out (by kernel_rfl)) ?_
              refine Pt.pu 3 (some 115) (Pt.bm 9 11) (any_of HT_.out (by kernel_rfl)) ?_
              refine Pt.pu 4 (some 116) (Pt.bm 9 27) (any_of HT_.out (by kernel_rfl)) ?_
              refine Pt.tk 2 (some 114) (Pt.bm 9 31) rfl rfl (take_ofW HT_.out HW_.out (by kernel_rfl)) hHeld (Or.inl ⟨by rfl, by rintro w' ⟨s0, s1⟩; go_simp; with_reducible rfl⟩) ?_
              refine Pt.pu 6 (some 6) (Pt.bm 9 95) (any_of HT_.out (by kernel_rfl)) ?_
              refine Pt.tk 5 (some 117) (Pt.bm 9 127) rfl rfl (take_ofW HT_.out HW_.out (by kernel_rfl)) hHeld (Or.inl ⟨by rfl, by rintro w' ⟨s0, s1⟩; go_simp; with_reducible rfl⟩) ?_
              refine Pt.pu 7 (some 7) (Pt.bm 9 255) (any_of HT_.out (by kernel_rfl)) ?_
              refine Pt.pu 8 (some 8) (Pt.bm 9 511) (any_of HT_.out (by kernel_rfl)) ?_
              refine done_ (done_of HT_.out (by kernel_rfl)) ?_
              try go_wp2
              go_ret3
              exact ⟨by first | rfl | (simp [errW_none, errW_some] <;> rfl) | (simp only [← hji60]; first | rfl | (simp [errW_none, errW_some] <;> rfl)) | (simp [*, errW_none, errW_some] <;> rfl), by repeat (first | (with_reducible first | exact HB.out | apply bwA | apply bwN | apply bwD) | exact HB.out)⟩
             ·rw [if_neg c64] at H
              exact absurd H (by simp)
            ·rw [if_neg c63] at H
             exact absurd H (by simp)
           ·rw [if_neg c62] at H
            exact absurd H (by simp)
          ·rw [if_neg c61] at H
           exact absurd H (by simp)

end Go.Proofs.Ytpfkgmcbogcmoaa.QFnExactRangeOf
