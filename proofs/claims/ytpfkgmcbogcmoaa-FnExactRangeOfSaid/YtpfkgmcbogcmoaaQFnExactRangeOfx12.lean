-- Written by a program of this session (mk.py). Lean checks it.
import Derived.Test.YtpfkgmcbogcmoaaQFnExactRangeOfx0
import Derived.Test.YtpfkgmcbogcmoaaQFnExactRangeOfx9
import Derived.Test.YtpfkgmcbogcmoaaQFnExactRangeOfx11
namespace Go.Proofs.Ytpfkgmcbogcmoaa.QFnExactRangeOf
open Go.RowKit Go.Proofs.YtpfkgmcbogcmoaaW.PrintWords Go.Proofs.YtpfkgmcbogcmoaaW.PrintLast Go.Proofs.YtpfkgmcbogcmoaaW.PrintMore
attribute [local go_sem] max2_int min2_int max_two min_two max_three min_three max_four min_four   -- for this text's walks alone
set_option linter.unusedVariables false
set_option linter.unusedSimpArgs false

/-! ### impl_RangeOf: function 32 -/
mutual
def impl_RangeOf.j0 : Nat → List (S73) → List Int → List Int → Bool → Option (Int × Int × Bool)
 | 0, _, _, _, _ => none
 | k + 1, x0, x1, x2, x35 => if x35 = true then (some (0, 0, false)) else (impl_RangeOf.l0 k x0 x1 x2 (x1.length : Int) 0)
def impl_RangeOf.l0 : Nat → List (S73) → List Int → List Int → Int → Int → Option (Int × Int × Bool)
 | 0, _, _, _, _, _ => none
 | k + 1, x0, x1, x2, x37, x38 => if x38 < x37 then (if 0 ≤ x38 then (if x38 < (x1.length : Int) then (if x38 < (x2.length : Int) then (if (rd x1 x38) > (rd x2 x38) then (some (0, 0, false)) else (impl_RangeOf.l0 k x0 x1 x2 x37 (wrap64 (x38 + 1)))) else (none)) else (none)) else (none)) else (if 0 ≤ (x0.length : Int) then (if ((x0.length : Int) : Int).toNat ≤ 17592186044416 then (impl_RangeOf.l1 k x1 x2 (List.replicate ((x0.length : Int) : Int).toNat z94) x0 (x0.length : Int) 0) else (none)) else (none))
def impl_RangeOf.l1 : Nat → List Int → List Int → List (S94) → List (S73) → Int → Int → Option (Int × Int × Bool)
 | 0, _, _, _, _, _, _ => none
 | k + 1, x1, x2, x10, x54, x55, x56 => if x56 < x55 then (if 0 ≤ x56 then (if x56 < (x54.length : Int) then (if ((rd_T73 x54 x56).f0) = 0 then (if x56 < (x10.length : Int) then (impl_RangeOf.l1 k x1 x2 (x10.set (x56 : Int).toNat (⟨(rd_T73 x54 x56).f1, (rd_T73 x54 x56).f1⟩ : S94)) x54 x55 (wrap64 (x56 + 1))) else (none)) else (if ((rd_T73 x54 x56).f0) = 1 then (if 0 ≤ ((rd_T73 x54 x56).f1) then (if ((rd_T73 x54 x56).f1) < (x1.length : Int) then (if ((rd_T73 x54 x56).f1) < (x2.length : Int) then (if x56 < (x10.length : Int) then (impl_RangeOf.l1 k x1 x2 (x10.set (x56 : Int).toNat (⟨rd x1 ((rd_T73 x54 x56).f1), rd x2 ((rd_T73 x54 x56).f1)⟩ : S94)) x54 x55 (wrap64 (x56 + 1))) else (none)) else (none)) else (none)) else (none)) else (if 0 ≤ ((rd_T73 x54 x56).f2) then (if ((rd_T73 x54 x56).f2) < (x10.length : Int) then (if 0 ≤ ((rd_T73 x54 x56).f3) then (if ((rd_T73 x54 x56).f3) < (x10.length : Int) then ((impl_spanOf.f k ((rd_T73 x54 x56).f0) ((rd_T94 x10 ((rd_T73 x54 x56).f2)).f0) ((rd_T94 x10 ((rd_T73 x54 x56).f2)).f1) ((rd_T94 x10 ((rd_T73 x54 x56).f3)).f0) ((rd_T94 x10 ((rd_T73 x54 x56).f3)).f1)).bind fun bt384 => (if x56 < (x10.length : Int) then (impl_RangeOf.l1 k x1 x2 (x10.set (x56 : Int).toNat (⟨bt384.1, bt384.2⟩ : S94)) x54 x55 (wrap64 (x56 + 1))) else (none))) else (none)) else (none)) else (none)) else (none)))) else (none)) else (none)) else (if 0 ≤ (wrap64 ((x10.length : Int) - 1)) then (if (wrap64 ((x10.length : Int) - 1)) < (x10.length : Int) then (some ((rd_T94 x10 (wrap64 ((x10.length : Int) - 1))).f0, (rd_T94 x10 (wrap64 ((x10.length : Int) - 1))).f1, true)) else (none)) else (none))
end
def impl_RangeOf.f (k : Nat) (l0 : List (S73)) (l1 : List Int) (l2 : List Int) : Option (Int × Int × Bool) := (impl_stateOk.f l1).bind fun t366 => (if t366 = true then ((impl_stateOk.f l2).bind fun t367 => (if t367 = true then (if (l1.length : Int) = (l2.length : Int) then ((impl_TermsValid.f k l0 (l1.length : Int)).bind fun t368 => (impl_RangeOf.j0 k l0 l1 l2 (!t368))) else (impl_RangeOf.j0 k l0 l1 l2 true)) else (impl_RangeOf.j0 k l0 l1 l2 true))) else (impl_RangeOf.j0 k l0 l1 l2 true))
theorem impl_RangeOf.mono_l : ∀ k, (∀ y0 y1 y2 y3, LeO (impl_RangeOf.j0 k y0 y1 y2 y3) (impl_RangeOf.j0 (k + 1) y0 y1 y2 y3)) ∧ (∀ y0 y1 y2 y3 y4, LeO (impl_RangeOf.l0 k y0 y1 y2 y3 y4) (impl_RangeOf.l0 (k + 1) y0 y1 y2 y3 y4)) ∧ (∀ y0 y1 y2 y3 y4 y5, LeO (impl_RangeOf.l1 k y0 y1 y2 y3 y4 y5) (impl_RangeOf.l1 (k + 1) y0 y1 y2 y3 y4 y5))
 | 0 => ⟨fun _ _ _ _ r h => by simp [impl_RangeOf.j0] at h, fun _ _ _ _ _ r h => by simp [impl_RangeOf.l0] at h, fun _ _ _ _ _ _ r h => by simp [impl_RangeOf.l1] at h⟩
 | k + 1 => by
  obtain ⟨ih0, ih1, ih2⟩ := impl_RangeOf.mono_l k
  refine ⟨?_, ?_, ?_⟩
  ·intro y0 y1 y2 y3
   unfold impl_RangeOf.j0
   repeat' first
   | (with_reducible exact ih0 _ _ _ _)
   | (with_reducible exact ih1 _ _ _ _ _)
   | (with_reducible exact ih2 _ _ _ _ _ _)
   | (with_reducible exact impl_TermsValid.mono _ _ _)
   | (with_reducible exact impl_spanOf.mono _ _ _ _ _ _)
   | (with_reducible exact LeO.refl _)
   | (with_reducible exact LeO.none _)
   | (with_reducible refine LeO.ite ?_ ?_)
   | (with_reducible refine LeO.bind ?_ (fun _ => ?_))
   | exact ih0 _ _ _ _
   | exact ih1 _ _ _ _ _
   | exact ih2 _ _ _ _ _ _
   | exact impl_TermsValid.mono _ _ _
   | exact impl_spanOf.mono _ _ _ _ _ _
   | exact LeO.none _
   | refine LeO.ite ?_ ?_
   | refine LeO.bind ?_ (fun _ => ?_)
  ·intro y0 y1 y2 y3 y4
   unfold impl_RangeOf.l0
   repeat' first
   | (with_reducible exact ih0 _ _ _ _)
   | (with_reducible exact ih1 _ _ _ _ _)
   | (with_reducible exact ih2 _ _ _ _ _ _)
   | (with_reducible exact impl_TermsValid.mono _ _ _)
   | (with_reducible exact impl_spanOf.mono _ _ _ _ _ _)
   | (with_reducible exact LeO.refl _)
   | (with_reducible exact LeO.none _)
   | (with_reducible refine LeO.ite ?_ ?_)
   | (with_reducible refine LeO.bind ?_ (fun _ => ?_))
   | exact ih0 _ _ _ _
   | exact ih1 _ _ _ _ _
   | exact ih2 _ _ _ _ _ _
   | exact impl_TermsValid.mono _ _ _
   | exact impl_spanOf.mono _ _ _ _ _ _
   | exact LeO.none _
   | refine LeO.ite ?_ ?_
   | refine LeO.bind ?_ (fun _ => ?_)
  ·intro y0 y1 y2 y3 y4 y5
   unfold impl_RangeOf.l1
   repeat' first
   | (with_reducible exact ih0 _ _ _ _)
   | (with_reducible exact ih1 _ _ _ _ _)
   | (with_reducible exact ih2 _ _ _ _ _ _)
   | (with_reducible exact impl_TermsValid.mono _ _ _)
   | (with_reducible exact impl_spanOf.mono _ _ _ _ _ _)
   | (with_reducible exact LeO.refl _)
   | (with_reducible exact LeO.none _)
   | (with_reducible refine LeO.ite ?_ ?_)
   | (with_reducible refine LeO.bind ?_ (fun _ => ?_))
   | exact ih0 _ _ _ _
   | exact ih1 _ _ _ _ _
   | exact ih2 _ _ _ _ _ _
   | exact impl_TermsValid.mono _ _ _
   | exact impl_spanOf.mono _ _ _ _ _ _
   | exact LeO.none _
   | refine LeO.ite ?_ ?_
   | refine LeO.bind ?_ (fun _ => ?_)
theorem impl_RangeOf.mono : ∀ a0 a1 a2 k, LeO (impl_RangeOf.f k a0 a1 a2) (impl_RangeOf.f (k + 1) a0 a1 a2) := by
 intro a0 a1 a2 k
 obtain ⟨ih0, ih1, ih2⟩ := impl_RangeOf.mono_l k
 unfold impl_RangeOf.f
 repeat' first
   | (with_reducible exact ih0 _ _ _ _)
   | (with_reducible exact ih1 _ _ _ _ _)
   | (with_reducible exact ih2 _ _ _ _ _ _)
   | (with_reducible exact impl_TermsValid.mono _ _ _)
   | (with_reducible exact impl_spanOf.mono _ _ _ _ _ _)
   | (with_reducible exact LeO.refl _)
   | (with_reducible exact LeO.none _)
   | (with_reducible refine LeO.ite ?_ ?_)
   | (with_reducible refine LeO.bind ?_ (fun _ => ?_))
   | exact ih0 _ _ _ _
   | exact ih1 _ _ _ _ _
   | exact ih2 _ _ _ _ _ _
   | exact impl_TermsValid.mono _ _ _
   | exact impl_spanOf.mono _ _ _ _ _ _
   | exact LeO.none _
   | refine LeO.ite ?_ ?_
   | refine LeO.bind ?_ (fun _ => ?_)
def impl_RangeOf.T6 : Bool × List (List Nat × List Nat) := (true, [([], []), ([], []), ([0, 1], [0, 1]), ([2], [2]), ([], []), ([], []), ([4, 5], [4, 5]), ([6], [6]), ([3, 7], [3, 7])])
def impl_RangeOf.B6 : List Nat := [0, 0, 3, 7, 0, 0, 48, 112, 255]
theorem impl_RangeOf.tab6 : rtab .any (opsOf Try.f32 6) = impl_RangeOf.T6 := by kernel_rfl
theorem impl_RangeOf.bits6 : waitsOk impl_RangeOf.T6.2 impl_RangeOf.B6 = true := by kernel_rfl
def impl_RangeOf.T14 : Bool × List (List Nat × List Nat) := (true, [([], []), ([], []), ([], []), ([2], [2]), ([], []), ([], []), ([5], [5]), ([4, 6], [4, 6]), ([7], [7]), ([], []), ([], []), ([10], [10]), ([9, 11], [9, 11]), ([12], [12]), ([3, 8, 13], [3, 8, 13]), ([0, 1, 0, 1, 2, 3, 4, 5, 6, 7, 8, 9, 10, 11, 12, 13, 14], [0, 1]), ([15, 14, 14, 0, 1, 2, 3, 4, 5, 6, 7, 8, 9, 10, 11, 12, 13, 14], [14, 15])])
def impl_RangeOf.B14 : List Nat := [0, 0, 0, 4, 0, 0, 32, 112, 240, 0, 0, 1024, 3584, 7680, 16380, 32767, 65535]
theorem impl_RangeOf.tab14 : rtab .any (opsOf Try.f32 14) = impl_RangeOf.T14 := by kernel_rfl
theorem impl_RangeOf.bits14 : waitsOk impl_RangeOf.T14.2 impl_RangeOf.B14 = true := by kernel_rfl
def impl_RangeOf.T18 : Bool × List (List Nat × List Nat) := (true, [([], []), ([], []), ([], []), ([], []), ([3], [3]), ([2, 4], [2, 4]), ([5], [5]), ([], []), ([], []), ([8], [8]), ([7, 9], [7, 9]), ([10], [10]), ([6, 11], [6, 11]), ([0, 1, 0, 1, 2, 3, 4, 5, 6, 7, 8, 9, 10, 11, 12], [0, 1]), ([13, 12, 0, 1, 2, 3, 4, 5, 6, 7, 8, 9, 10, 11, 12], [12, 13])])
def impl_RangeOf.B18 : List Nat := [0, 0, 0, 0, 8, 28, 60, 0, 0, 256, 896, 1920, 4092, 8191, 16383]
theorem impl_RangeOf.tab18 : rtab .any (opsOf Try.f32 18) = impl_RangeOf.T18 := by kernel_rfl
theorem impl_RangeOf.bits18 : waitsOk impl_RangeOf.T18.2 impl_RangeOf.B18 = true := by kernel_rfl
set_option maxHeartbeats 8000000 in
set_option maxRecDepth 100000 in
theorem impl_RangeOf.calls (k : Nat) (A0 : Option Addr) (c0 : Nat) (l0 : List (S73)) (A1 : Option Addr) (c1 : Nat) (l1 : List Int) (A2 : Option Addr) (c2 : Nat) (l2 : List Int) (r1 : Int) (r2 : Int) (r3 : Bool) (w : World) (hr0 : Kd.C k73 w A0 l0.length l0) (hc0 : l0.length ≤ c0) (hr1 : Kd.C (Kd.int .i64) w A1 l1.length l1) (hc1 : l1.length ≤ c1) (hr2 : Kd.C (Kd.int .i64) w A2 l2.length l2) (hc2 : l2.length ≤ c2) (h : impl_RangeOf.f k l0 l1 l2 = some (r1, r2, r3)) :
  Calls Try.prog 32 #[.slice A0 l0.length c0, .slice A1 l1.length c1, .slice A2 l2.length c2] w fun e w' => e = .returned (.tuple #[.int .i64 r1, .int .i64 r2, .bool r3]) ∧ Below w.heap.size w w' := by
 have hu73 := Try.underlying73
 have hu94 := Try.underlying94
 have HR0 := Aside0.mk hr0
 have HC0 := Aside0.mk hc0
 clear hr0 hc0
 have HR1 := Aside0.mk hr1
 have HC1 := Aside0.mk hc1
 clear hr1 hc1
 have HR2 := Aside0.mk hr2
 have HC2 := Aside0.mk hc2
 clear hr2 hc2
 have HB := Aside0.mk (Below.refl w.heap.size w)
 have H : ((impl_stateOk.f l1).bind fun t366 => (if t366 = true then ((impl_stateOk.f l2).bind fun t367 => (if t367 = true then (if (l1.length : Int) = (l2.length : Int) then ((impl_TermsValid.f k l0 (l1.length : Int)).bind fun t368 => (impl_RangeOf.j0 k l0 l1 l2 (!t368))) else (impl_RangeOf.j0 k l0 l1 l2 true)) else (impl_RangeOf.j0 k l0 l1 l2 true))) else (impl_RangeOf.j0 k l0 l1 l2 true))) = some (r1, r2, r3) := h
 clear h
 have HC4 := Aside0.mk H
 clear H
 go_enter Try.func32, Try.ntmps32
 go_upto_region 1 with (fail)
 go_cut [35] (fun v35 wc => ∃ (kq : Nat) (x35_3 : Bool), v35 = .bool x35_3 ∧ Aside0 (impl_RangeOf.j0 kq l0 l1 l2 x35_3 = some (r1, r2, r3)) ∧ Aside0 (kq ≤ k) ∧ Aside0 (Below w.heap.size w wc))
 case first =>
  have H := HC4.out
  clear HC4
  replace H := Option.bind_eq_some_iff.mp H
  obtain ⟨t366, A50, H⟩ := H
  replace H : (if t366 = true then ((impl_stateOk.f l2).bind fun t367 => (if t367 = true then (if (l1.length : Int) = (l2.length : Int) then ((impl_TermsValid.f k l0 (l1.length : Int)).bind fun t368 => (impl_RangeOf.j0 k l0 l1 l2 (!t368))) else (impl_RangeOf.j0 k l0 l1 l2 true)) else (impl_RangeOf.j0 k l0 l1 l2 true))) else (impl_RangeOf.j0 k l0 l1 l2 true)) = some (r1, r2, r3) := H
  have A5 := Aside0.mk A50
  clear A50
  by_cases c6 : t366 = true
  ·subst c6
   have H1 : ((impl_stateOk.f l2).bind fun t367 => (if t367 = true then (if (l1.length : Int) = (l2.length : Int) then ((impl_TermsValid.f k l0 (l1.length : Int)).bind fun t368 => (impl_RangeOf.j0 k l0 l1 l2 (!t368))) else (impl_RangeOf.j0 k l0 l1 l2 true)) else (impl_RangeOf.j0 k l0 l1 l2 true))) = some (r1, r2, r3) := by rw [if_pos rfl] at H; exact H
   clear H
   have H := H1
   clear H1
   replace H := Option.bind_eq_some_iff.mp H
   obtain ⟨t367, A70, H⟩ := H
   replace H : (if t367 = true then (if (l1.length : Int) = (l2.length : Int) then ((impl_TermsValid.f k l0 (l1.length : Int)).bind fun t368 => (impl_RangeOf.j0 k l0 l1 l2 (!t368))) else (impl_RangeOf.j0 k l0 l1 l2 true)) else (impl_RangeOf.j0 k l0 l1 l2 true)) = some (r1, r2, r3) := H
   have A7 := Aside0.mk A70
   clear A70
   by_cases c8 : t367 = true
   ·subst c8
    have H1 : (if (l1.length : Int) = (l2.length : Int) then ((impl_TermsValid.f k l0 (l1.length : Int)).bind fun t368 => (impl_RangeOf.j0 k l0 l1 l2 (!t368))) else (impl_RangeOf.j0 k l0 l1 l2 true)) = some (r1, r2, r3) := by rw [if_pos rfl] at H; exact H
    clear H
    have H := H1
    clear H1
    by_cases c9 : (l1.length : Int) = (l2.length : Int)
    ·rw [if_pos c9] at H
     have c9b0 : ((l1.length : Int) == (l2.length : Int)) = true := beq_iff_eq.mpr c9
     have c9b1 : ((l1.length : Int) != (l2.length : Int)) = false := bne_eq_false_iff_eq.mpr c9
     have c9b2 : (l1.length == l2.length) = true := by first | simpa using c9 | (simp at c9 ⊢; omega)
     clear c9
     (first | rw [c9b0] | (simp only [i64_w, i32_w]; rw [c9b0]) | skip)
     replace H := Option.bind_eq_some_iff.mp H
     obtain ⟨t368, A100, H⟩ := H
     replace H : (impl_RangeOf.j0 k l0 l1 l2 (!t368)) = some (r1, r2, r3) := H
     have A10 := Aside0.mk A100
     clear A100
     have H' := Aside0.mk H
     clear H
     go_wp2_with (first | ((with_reducible refine gate_callee (f := 56) rfl ?_); refine goesL_ (some 15) rfl rfl Try.func56 (by kernel_rfl) rfl #[.slice A1 l1.length c1] rfl (by (try simp only [List.map_toArray, List.map_cons, List.map_nil]); first | done | rfl | (simp only [List.length_drop, List.length_take]; rfl)) ?_; (with_reducible refine (impl_stateOk.calls _ _ l1 true _ ?side1 ?side2 A5.out).mono ?_); (case side1 => repeat (first | exact (Kd.C_below HR1.out HB.out) | (with_reducible refine Kd.C_alloc ?_ _) | (with_reducible refine Kd.C_drewN ?_ _) | (with_reducible refine Kd.C_drew ?_))); (case side2 => exact HC1.out); rintro e w11 ⟨rfl, hb⟩; refine ⟨_, rfl, ?_⟩; have n0_ := Aside0.mk (below_step (by repeat (first | (with_reducible first | exact HB.out | apply bwA | apply bwN | apply bwD) | exact HB.out)) hb); clear HB; have HB := n0_; clear n0_; (try clear hb); (try clear hb2); (try clear hk); (try clear hi)) | (go_at_call 56; (with_reducible refine (impl_stateOk.calls _ _ l2 true _ ?side1 ?side2 A7.out).mono ?_); (case side1 => repeat (first | exact (Kd.C_below HR2.out HB.out) | (with_reducible refine Kd.C_alloc ?_ _) | (with_reducible refine Kd.C_drewN ?_ _) | (with_reducible refine Kd.C_drew ?_))); (case side2 => exact HC2.out); rintro e w12 ⟨rfl, hb⟩; have n0_ := Aside0.mk (below_step (by repeat (first | (with_reducible first | exact HB.out | apply bwA | apply bwN | apply bwD) | exact HB.out)) hb); clear HB; have HB := n0_; clear n0_; (try clear hb); (try clear hb2); (try clear hk); (try clear hi)) | (go_at_call 23; (with_reducible refine (impl_TermsValid.calls k _ _ l0 (l1.length : Int) t368 _ ?side1 ?side2 A10.out).mono ?_); (case side1 => repeat (first | exact (Kd.C_below HR0.out HB.out) | (with_reducible refine Kd.C_alloc ?_ _) | (with_reducible refine Kd.C_drewN ?_ _) | (with_reducible refine Kd.C_drew ?_))); (case side2 => exact HC0.out); rintro e w13 ⟨rfl, hb⟩; have n0_ := Aside0.mk (below_step (by repeat (first | (with_reducible first | exact HB.out | apply bwA | apply bwN | apply bwD) | exact HB.out)) hb); clear HB; have HB := n0_; clear n0_; (try clear hb); (try clear hb2); (try clear hk); (try clear hi)))
     go_meet
     case rel => exact ⟨_, (!t368), (by first | rfl | (simp; done) | (simp [*]; done)), H', ⟨by first | omega | exact Nat.le_refl _⟩, ⟨by repeat (first | (with_reducible first | exact HB.out | apply bwA | apply bwN | apply bwD) | exact HB.out)⟩⟩
    ·rw [if_neg c9] at H
     have c9b0 : ((l1.length : Int) == (l2.length : Int)) = false := beq_eq_false_iff_ne.mpr c9
     have c9b1 : ((l1.length : Int) != (l2.length : Int)) = true := bne_iff_ne.mpr c9
     have c9b2 : (l1.length == l2.length) = false := by first | simpa using c9 | (simp at c9 ⊢; omega)
     (first | rw [c9b0] | (simp only [i64_w, i32_w]; rw [c9b0]) | skip)
     have H' := Aside0.mk H
     clear H
     go_wp2_with (first | ((with_reducible refine gate_callee (f := 56) rfl ?_); refine goesL_ (some 15) rfl rfl Try.func56 (by kernel_rfl) rfl #[.slice A1 l1.length c1] rfl (by (try simp only [List.map_toArray, List.map_cons, List.map_nil]); first | done | rfl | (simp only [List.length_drop, List.length_take]; rfl)) ?_; (with_reducible refine (impl_stateOk.calls _ _ l1 true _ ?side1 ?side2 A5.out).mono ?_); (case side1 => repeat (first | exact (Kd.C_below HR1.out HB.out) | (with_reducible refine Kd.C_alloc ?_ _) | (with_reducible refine Kd.C_drewN ?_ _) | (with_reducible refine Kd.C_drew ?_))); (case side2 => exact HC1.out); rintro e w14 ⟨rfl, hb⟩; refine ⟨_, rfl, ?_⟩; have n0_ := Aside0.mk (below_step (by repeat (first | (with_reducible first | exact HB.out | apply bwA | apply bwN | apply bwD) | exact HB.out)) hb); clear HB; have HB := n0_; clear n0_; (try clear hb); (try clear hb2); (try clear hk); (try clear hi)) | (go_at_call 56; (with_reducible refine (impl_stateOk.calls _ _ l2 true _ ?side1 ?side2 A7.out).mono ?_); (case side1 => repeat (first | exact (Kd.C_below HR2.out HB.out) | (with_reducible refine Kd.C_alloc ?_ _) | (with_reducible refine Kd.C_drewN ?_ _) | (with_reducible refine Kd.C_drew ?_))); (case side2 => exact HC2.out); rintro e w15 ⟨rfl, hb⟩; have n0_ := Aside0.mk (below_step (by repeat (first | (with_reducible first | exact HB.out | apply bwA | apply bwN | apply bwD) | exact HB.out)) hb); clear HB; have HB := n0_; clear n0_; (try clear hb); (try clear hb2); (try clear hk); (try clear hi)))
     go_meet
     case rel => exact ⟨_, (true), (by first | rfl | (simp; done) | (simp [*]; done)), H', ⟨by first | omega | exact Nat.le_refl _⟩, ⟨by repeat (first | (with_reducible first | exact HB.out | apply bwA | apply bwN | apply bwD) | exact HB.out)⟩⟩
   ·replace c8 := Bool.eq_false_iff.mpr c8
    subst c8
    have H1 : (impl_RangeOf.j0 k l0 l1 l2 true) = some (r1, r2, r3) := by rw [if_neg (show ¬ (false = true) by decide)] at H; exact H
    clear H
    have H := H1
    clear H1
    have H' := Aside0.mk H
    clear H
    go_wp2_with (first | ((with_reducible refine gate_callee (f := 56) rfl ?_); refine goesL_ (some 15) rfl rfl Try.func56 (by kernel_rfl) rfl #[.slice A1 l1.length c1] rfl (by (try simp only [List.map_toArray, List.map_cons, List.map_nil]); first | done | rfl | (simp only [List.length_drop, List.length_take]; rfl)) ?_; (with_reducible refine (impl_stateOk.calls _ _ l1 true _ ?side1 ?side2 A5.out).mono ?_); (case side1 => repeat (first | exact (Kd.C_below HR1.out HB.out) | (with_reducible refine Kd.C_alloc ?_ _) | (with_reducible refine Kd.C_drewN ?_ _) | (with_reducible refine Kd.C_drew ?_))); (case side2 => exact HC1.out); rintro e w16 ⟨rfl, hb⟩; refine ⟨_, rfl, ?_⟩; have n0_ := Aside0.mk (below_step (by repeat (first | (with_reducible first | exact HB.out | apply bwA | apply bwN | apply bwD) | exact HB.out)) hb); clear HB; have HB := n0_; clear n0_; (try clear hb); (try clear hb2); (try clear hk); (try clear hi)) | (go_at_call 56; (with_reducible refine (impl_stateOk.calls _ _ l2 false _ ?side1 ?side2 A7.out).mono ?_); (case side1 => repeat (first | exact (Kd.C_below HR2.out HB.out) | (with_reducible refine Kd.C_alloc ?_ _) | (with_reducible refine Kd.C_drewN ?_ _) | (with_reducible refine Kd.C_drew ?_))); (case side2 => exact HC2.out); rintro e w17 ⟨rfl, hb⟩; have n0_ := Aside0.mk (below_step (by repeat (first | (with_reducible first | exact HB.out | apply bwA | apply bwN | apply bwD) | exact HB.out)) hb); clear HB; have HB := n0_; clear n0_; (try clear hb); (try clear hb2); (try clear hk); (try clear hi)))
    go_meet
    case rel => exact ⟨_, (true), (by first | rfl | (simp; done) | (simp [*]; done)), H', ⟨by first | omega | exact Nat.le_refl _⟩, ⟨by repeat (first | (with_reducible first | exact HB.out | apply bwA | apply bwN | apply bwD) | exact HB.out)⟩⟩
  ·replace c6 := Bool.eq_false_iff.mpr c6
   subst c6
   have H1 : (impl_RangeOf.j0 k l0 l1 l2 true) = some (r1, r2, r3) := by rw [if_neg (show ¬ (false = true) by decide)] at H; exact H
   clear H
   have H := H1
   clear H1
   have H' := Aside0.mk H
   clear H
   go_wp2_with (first | ((with_reducible refine gate_callee (f := 56) rfl ?_); refine goesL_ (some 15) rfl rfl Try.func56 (by kernel_rfl) rfl #[.slice A1 l1.length c1] rfl (by (try simp only [List.map_toArray, List.map_cons, List.map_nil]); first | done | rfl | (simp only [List.length_drop, List.length_take]; rfl)) ?_; (with_reducible refine (impl_stateOk.calls _ _ l1 false _ ?side1 ?side2 A5.out).mono ?_); (case side1 => repeat (first | exact (Kd.C_below HR1.out HB.out) | (with_reducible refine Kd.C_alloc ?_ _) | (with_reducible refine Kd.C_drewN ?_ _) | (with_reducible refine Kd.C_drew ?_))); (case side2 => exact HC1.out); rintro e w18 ⟨rfl, hb⟩; refine ⟨_, rfl, ?_⟩; have n0_ := Aside0.mk (below_step (by repeat (first | (with_reducible first | exact HB.out | apply bwA | apply bwN | apply bwD) | exact HB.out)) hb); clear HB; have HB := n0_; clear n0_; (try clear hb); (try clear hb2); (try clear hk); (try clear hi)))
   go_meet
   case rel => exact ⟨_, (true), (by first | rfl | (simp; done) | (simp [*]; done)), H', ⟨by first | omega | exact Nat.le_refl _⟩, ⟨by repeat (first | (with_reducible first | exact HB.out | apply bwA | apply bwN | apply bwD) | exact HB.out)⟩⟩
 case rest =>
  clear HC4
  try clear c1
  try clear c2
  try clear p2
  try clear c3
  try clear c5
  try clear c6
  try clear c8
  try clear c9
  try clear c9b0
  try clear c9b1
  try clear c9b2
  obtain ⟨kq, x35_3, rfl, HA, HJ3, HB⟩ := hcut
  cases kq with
  | zero => exact absurd HA.out (by simp [impl_RangeOf.j0])
  | succ kj3 =>
   have H := HA.out
   clear HA
   simp only [impl_RangeOf.j0] at H
   by_cases c19 : x35_3 = true
   ·subst c19
    have H1 : (some (0, 0, false)) = some (r1, r2, r3) := by rw [if_pos rfl] at H; exact H
    clear H
    have H := H1
    clear H1
    simp only [Option.some.injEq, Prod.mk.injEq] at H
    obtain ⟨rfl, rfl, rfl⟩ := H
    go_wp2
    go_ret3
    exact ⟨by first | rfl | (simp [errW_none, errW_some] <;> rfl) | (simp [*, errW_none, errW_some] <;> rfl), by repeat (first | (with_reducible first | exact HB.out | apply bwA | apply bwN | apply bwD) | exact HB.out)⟩
   ·replace c19 := Bool.eq_false_iff.mpr c19
    subst c19
    have H1 : (impl_RangeOf.l0 kj3 l0 l1 l2 (l1.length : Int) 0) = some (r1, r2, r3) := by rw [if_neg (show ¬ (false = true) by decide)] at H; exact H
    clear H
    have H := H1
    clear H1
    have H' := Aside0.mk H
    clear H
    go_wp2
    go_loopg [38] kj3 (fun kq v38 w' => ∃ (x38_2 : Int), v38 = .int .i64 x38_2 ∧ Aside0 (impl_RangeOf.l0 kq l0 l1 l2 (l1.length : Int) x38_2 = some (r1, r2, r3)) ∧ Aside0 (kq ≤ kj3) ∧ Aside0 (Below w.heap.size w w'))
    case atStart => exact ⟨(0), (by first | rfl | (simp; done) | (simp [*]; done)), H', ⟨Nat.le_refl _⟩, ⟨by repeat (first | (with_reducible first | exact HB.out | apply bwA | apply bwN | apply bwD) | exact HB.out)⟩⟩
    case round =>
     clear H'
     try clear c1
     try clear c2
     try clear p2
     try clear c3
     try clear c5
     try clear c6
     try clear c8
     try clear c9
     try clear c9b0
     try clear c9b1
     try clear c9b2
     try clear c19
     try clear p2
     obtain ⟨x38_2, rfl, HA, HK2, HB⟩ := hrel
     cases gk with
     | zero => exact absurd HA.out (by simp [impl_RangeOf.l0])
     | succ k2 =>
      have H := HA.out
      clear HA
      simp only [impl_RangeOf.l0] at H
      by_cases c20 : x38_2 < (l1.length : Int)
      ·rw [if_pos c20] at H
       have c20b0 : decide (x38_2 < (l1.length : Int)) = true := decide_eq_true c20
       clear c20
       by_cases c21 : 0 ≤ x38_2
       ·rw [if_pos c21] at H
        have c21b0 : decide (0 ≤ x38_2) = true := decide_eq_true c21
        clear c21
        by_cases c22 : x38_2 < (l1.length : Int)
        ·rw [if_pos c22] at H
         have c22b0 : decide (x38_2 < (l1.length : Int)) = true := decide_eq_true c22
         clear c22
         by_cases c23 : x38_2 < (l2.length : Int)
         ·rw [if_pos c23] at H
          have c23b0 : decide (x38_2 < (l2.length : Int)) = true := decide_eq_true c23
          clear c23
          by_cases c24 : (rd l1 x38_2) > (rd l2 x38_2)
          ·rw [if_pos c24] at H
           have c24b0 : decide ((rd l2 x38_2) < (rd l1 x38_2)) = true := decide_eq_true c24
           clear c24
           simp only [Option.some.injEq, Prod.mk.injEq] at H
           obtain ⟨rfl, rfl, rfl⟩ := H
           try go_wp2
           have n0_ := Aside0.mk (below_drew1 HB.out)
           clear HB
           have HB := n0_
           clear n0_
           have p369 : 0 ≤ (x38_2 : Int) := of_decide_eq_true (by first | (with_reducible assumption) | assumption)
           have q369 : x38_2 < (l1.length : Int) := of_decide_eq_true (by first | (with_reducible assumption) | assumption)
           obtain ⟨ad369, e369, hx369_0⟩ := Kd.at_int HR1.out x38_2 p369 q369
           have hw369_0 := hx369_0
           cases e369
           try replace hx369_0 := (HB.out.cell (World.block_lt_of_cell? w _ hx369_0)).trans hx369_0
           replace p369 := eq_true p369
           replace q369 := eq_true q369
           have p370 : 0 ≤ (x38_2 : Int) := of_decide_eq_true (by first | (with_reducible assumption) | assumption)
           have q370 : x38_2 < (l2.length : Int) := of_decide_eq_true (by first | (with_reducible assumption) | assumption)
           obtain ⟨ad370, e370, hx370_0⟩ := Kd.at_int HR2.out x38_2 p370 q370
           have hw370_0 := hx370_0
           cases e370
           try replace hx370_0 := (HB.out.cell (World.block_lt_of_cell? w _ hx370_0)).trans hx370_0
           replace p370 := eq_true p370
           replace q370 := eq_true q370
           refine start_ (n := 9) (S := fun w' => w'.cell? (ad369.add (x38_2).toNat) = some (.int .i64 (rd l1 x38_2)) ∧ w'.cell? (ad370.add (x38_2).toNat) = some (.int .i64 (rd l2 x38_2))) (ds := []) (Pt.bm 9 0) (by kernel_rfl) rfl rfl ⟨((HB.out.cell (World.block_lt_of_cell? w _ hw369_0)).trans hw369_0), ((HB.out.cell (World.block_lt_of_cell? w _ hw370_0)).trans hw370_0)⟩ (fun hHeld => ?_); refine with_tabW impl_RangeOf.tab6 impl_RangeOf.bits6 (fun HT_ HW_ => ?_)
           generalize wr.drew = w25 at HB hx369_0 hx370_0 hHeld ⊢
           refine Pt.pu 0 (some 41) (Pt.bm 9 1) (any_of HT_.out (by kernel_rfl)) ?_
           refine Pt.pu 1 (some 42) (Pt.bm 9 3) (any_of HT_.out (by kernel_rfl)) ?_
           refine Pt.pu 2 (some 43) (Pt.bm 9 7) (any_of HT_.out (by kernel_rfl)) ?_
           refine Pt.pu 4 (some 45) (Pt.bm 9 23) (any_of HT_.out (by kernel_rfl)) ?_
           refine Pt.pu 5 (some 46) (Pt.bm 9 55) (any_of HT_.out (by kernel_rfl)) ?_
           refine Pt.pu 6 (some 47) (Pt.bm 9 119) (any_of HT_.out (by kernel_rfl)) ?_
           refine Pt.tk 3 (some 44) (Pt.bm 9 127) rfl rfl (take_ofW HT_.out HW_.out (by kernel_rfl)) hHeld (Or.inl ⟨by rfl, by rintro w' ⟨s0, s1⟩; go_simp; with_reducible rfl⟩) ?_
           refine Pt.tk 7 (some 48) (Pt.bm 9 255) rfl rfl (take_ofW HT_.out HW_.out (by kernel_rfl)) hHeld (Or.inl ⟨by rfl, by rintro w' ⟨s0, s1⟩; go_simp; with_reducible rfl⟩) ?_
           refine Pt.pu 8 (some 49) (Pt.bm 9 511) (any_of HT_.out (by kernel_rfl)) ?_
           refine done_ (done_of HT_.out (by kernel_rfl)) ?_
           try go_wp2
           go_ret3
           exact ⟨by first | rfl | (simp [errW_none, errW_some] <;> rfl) | (simp [*, errW_none, errW_some] <;> rfl), by repeat (first | (with_reducible first | exact HB.out | apply bwA | apply bwN | apply bwD) | exact HB.out)⟩
          ·rw [if_neg c24] at H
           have c24b0 : decide ((rd l2 x38_2) < (rd l1 x38_2)) = false := decide_eq_false c24
           clear c24
           have H' := Aside0.mk H
           clear H
           try go_wp2
           have n0_ := Aside0.mk (below_drew1 HB.out)
           clear HB
           have HB := n0_
           clear n0_
           have p369 : 0 ≤ (x38_2 : Int) := of_decide_eq_true (by first | (with_reducible assumption) | assumption)
           have q369 : x38_2 < (l1.length : Int) := of_decide_eq_true (by first | (with_reducible assumption) | assumption)
           obtain ⟨ad369, e369, hx369_0⟩ := Kd.at_int HR1.out x38_2 p369 q369
           have hw369_0 := hx369_0
           cases e369
           try replace hx369_0 := (HB.out.cell (World.block_lt_of_cell? w _ hx369_0)).trans hx369_0
           replace p369 := eq_true p369
           replace q369 := eq_true q369
           have p370 : 0 ≤ (x38_2 : Int) := of_decide_eq_true (by first | (with_reducible assumption) | assumption)
           have q370 : x38_2 < (l2.length : Int) := of_decide_eq_true (by first | (with_reducible assumption) | assumption)
           obtain ⟨ad370, e370, hx370_0⟩ := Kd.at_int HR2.out x38_2 p370 q370
           have hw370_0 := hx370_0
           cases e370
           try replace hx370_0 := (HB.out.cell (World.block_lt_of_cell? w _ hx370_0)).trans hx370_0
           replace p370 := eq_true p370
           replace q370 := eq_true q370
           refine start_ (n := 9) (S := fun w' => w'.cell? (ad369.add (x38_2).toNat) = some (.int .i64 (rd l1 x38_2)) ∧ w'.cell? (ad370.add (x38_2).toNat) = some (.int .i64 (rd l2 x38_2))) (ds := []) (Pt.bm 9 0) (by kernel_rfl) rfl rfl ⟨((HB.out.cell (World.block_lt_of_cell? w _ hw369_0)).trans hw369_0), ((HB.out.cell (World.block_lt_of_cell? w _ hw370_0)).trans hw370_0)⟩ (fun hHeld => ?_); refine with_tabW impl_RangeOf.tab6 impl_RangeOf.bits6 (fun HT_ HW_ => ?_)
           generalize wr.drew = w26 at HB hx369_0 hx370_0 hHeld ⊢
           refine Pt.pu 0 (some 41) (Pt.bm 9 1) (any_of HT_.out (by kernel_rfl)) ?_
           refine Pt.pu 1 (some 42) (Pt.bm 9 3) (any_of HT_.out (by kernel_rfl)) ?_
           refine Pt.pu 2 (some 43) (Pt.bm 9 7) (any_of HT_.out (by kernel_rfl)) ?_
           refine Pt.pu 4 (some 45) (Pt.bm 9 23) (any_of HT_.out (by kernel_rfl)) ?_
           refine Pt.pu 5 (some 46) (Pt.bm 9 55) (any_of HT_.out (by kernel_rfl)) ?_
           refine Pt.pu 6 (some 47) (Pt.bm 9 119) (any_of HT_.out (by kernel_rfl)) ?_
           refine Pt.tk 3 (some 44) (Pt.bm 9 127) rfl rfl (take_ofW HT_.out HW_.out (by kernel_rfl)) hHeld (Or.inl ⟨by rfl, by rintro w' ⟨s0, s1⟩; go_simp; with_reducible rfl⟩) ?_
           refine Pt.tk 7 (some 48) (Pt.bm 9 255) rfl rfl (take_ofW HT_.out HW_.out (by kernel_rfl)) hHeld (Or.inl ⟨by rfl, by rintro w' ⟨s0, s1⟩; go_simp; with_reducible rfl⟩) ?_
           refine Pt.pu 8 (some 49) (Pt.bm 9 511) (any_of HT_.out (by kernel_rfl)) ?_
           refine done_ (done_of HT_.out (by kernel_rfl)) ?_
           try go_wp2
           go_roundg k2
           case measure => have := HJ3.out; have := HK2.out; omega
           case rel => exact ⟨(wrap64 (x38_2 + 1)), (by first | rfl | (simp; done) | (simp [*]; done)), H', ⟨by have := HJ3.out; have := HK2.out; omega⟩, ⟨by repeat (first | (with_reducible first | exact HB.out | apply bwA | apply bwN | apply bwD) | exact HB.out)⟩⟩
         ·rw [if_neg c23] at H
          exact absurd H (by simp)
        ·rw [if_neg c22] at H
         exact absurd H (by simp)
       ·rw [if_neg c21] at H
        exact absurd H (by simp)
      ·rw [if_neg c20] at H
       have c20b0 : decide (x38_2 < (l1.length : Int)) = false := decide_eq_false c20
       clear c20
       by_cases c27 : 0 ≤ (l0.length : Int)
       ·rw [if_pos c27] at H
        have c27b0 := eq_true c27
        have c27b1 : decide (0 ≤ (l0.length : Int)) = true := decide_eq_true c27
        clear c27
        by_cases c28 : ((l0.length : Int) : Int).toNat ≤ 17592186044416
        ·rw [if_pos c28] at H
         have c28b0 := eq_true c28
         have c28b1 : decide (((l0.length : Int) : Int).toNat ≤ 17592186044416) = true := decide_eq_true c28
         clear c28
         obtain ⟨y371, hy371⟩ : ∃ y_ : List (S94), y_ = (List.replicate ((l0.length : Int) : Int).toNat z94) := ⟨_, rfl⟩
         replace H : (impl_RangeOf.l1 k2 l1 l2 y371 l0 (l0.length : Int) 0) = some (r1, r2, r3) := by first | (rw [hy371]; with_reducible exact H) | (have H2_ := (Option.bind_some _ _).symm.trans H; rw [hy371]; with_reducible exact H2_) | (have H2_ := (Option.bind_some _ _).symm.trans H; with_reducible exact H2_) | with_reducible exact H | (rw [hy371]; exact H) | exact H
         have Ny371 := Aside0.mk hy371
         clear hy371
         have H' := Aside0.mk H
         clear H
         go_wp2_with (first | ((with_reducible refine gate_dst (N := 53) rfl ?_); (try (refine gate_guard (by rfl) ?_; dsimp only)); refine Kd.R_make k94 _ 94 rfl (N := 53) rfl 92 _ _ rfl (l0.length : Int) rfl rfl Try.underlying92 (.agg #[(.int .i64 0), (.int .i64 0)]) 16 info94 rfl (by decide) (by omega) z94 (ok := fun _ => True) (okp := fun _ => True) (k94_mkM _ _ _ z94 ) (fun _ hk => hk) trivial (of_decide_eq_true (by first | (with_reducible assumption) | assumption)) (Nat.le_trans (Nat.mul_le_mul_right _ (of_decide_eq_true (by first | (with_reducible assumption) | assumption) : (l0.length : Int).toNat ≤ 17592186044416)) (by omega)) (Below.refl _ _) (Nat.le_refl _) ?_; intro v372 w29 ho30 hb hg_ hnew_; clear hg_ hnew_; (first | rw [← Ny371.out] at ho30 | (simp only [Int.reduceToNat] at ho30; rw [← Ny371.out] at ho30)); have n0_ := Aside0.mk (Kd.R_lower ho30 (below_size (by repeat (first | (with_reducible first | exact HB.out | apply bwA | apply bwN | apply bwD) | exact HB.out)))); have n1_ := Aside0.mk (below_step (by repeat (first | (with_reducible first | exact HB.out | apply bwA | apply bwN | apply bwD) | exact HB.out)) hb); clear HB; have HO373 := n0_; have HB := n1_; clear n0_ n1_; clear hb ho30))
         go_loopg [56] k2 (fun kq v56 w' => ∃ (x10_3 : List (S94)) (x56_3 : Int), v56 = .int .i64 x56_3 ∧ Aside0 (impl_RangeOf.l1 kq l1 l2 x10_3 l0 (l0.length : Int) x56_3 = some (r1, r2, r3)) ∧ Aside0 (kq ≤ k2) ∧ Aside0 (Kd.R k94 94 w' w.heap.size (fun _ => True) v372 x10_3) ∧ Aside0 (Below w.heap.size w w'))
         case atStart => exact ⟨(y371), (0), (by first | rfl | (simp; done) | (simp [*]; done)), H', ⟨Nat.le_refl _⟩, ⟨by (with_reducible repeat (first | apply Kd.R_alloc | apply Kd.R_drewN | apply Kd.R_drew)); exact HO373.out⟩, ⟨by repeat (first | (with_reducible first | exact HB.out | apply bwA | apply bwN | apply bwD) | exact HB.out)⟩⟩
         case round =>
          clear H'
          try clear c1
          try clear c2
          try clear p2
          try clear c3
          try clear p3
          try clear q3
          try clear hx3
          try clear c5
          try clear c6
          try clear p6
          try clear c8
          try clear c9
          try clear c9b0
          try clear c9b1
          try clear c9b2
          try clear c19
          try clear c20
          try clear c20b0
          try clear c21
          try clear c21b0
          try clear c22
          try clear c22b0
          try clear c23
          try clear c23b0
          try clear c24
          try clear c24b0
          try clear c27
          try clear c27b0
          try clear c27b1
          try clear c28
          try clear c28b0
          try clear c28b1
          try clear hx369_0
          try clear hx370_0
          try clear p2
          try clear p369
          try clear p370
          try clear q369
          try clear q370
          obtain ⟨x10_3, x56_3, rfl, HA, HK3, HO_10, HB⟩ := hrel
          cases gk with
          | zero => exact absurd HA.out (by simp [impl_RangeOf.l1])
          | succ k3 =>
           have H := HA.out
           clear HA
           simp only [impl_RangeOf.l1] at H
           by_cases c31 : x56_3 < (l0.length : Int)
           ·rw [if_pos c31] at H
            have c31b0 : decide (x56_3 < (l0.length : Int)) = true := decide_eq_true c31
            clear c31
            by_cases c32 : 0 ≤ x56_3
            ·rw [if_pos c32] at H
             have c32b0 : decide (0 ≤ x56_3) = true := decide_eq_true c32
             clear c32
             by_cases c33 : x56_3 < (l0.length : Int)
             ·rw [if_pos c33] at H
              have c33b0 : decide (x56_3 < (l0.length : Int)) = true := decide_eq_true c33
              clear c33
              by_cases c34 : ((rd_T73 l0 x56_3).f0) = 0
              ·rw [if_pos c34] at H
               have c34b0 : (((rd_T73 l0 x56_3).f0) == 0) = true := beq_iff_eq.mpr c34
               have c34b1 : (((rd_T73 l0 x56_3).f0) != 0) = false := bne_eq_false_iff_eq.mpr c34
               clear c34
               by_cases c35 : x56_3 < (x10_3.length : Int)
               ·rw [if_pos c35] at H
                have c35b0 : decide (x56_3 < (x10_3.length : Int)) = true := decide_eq_true c35
                clear c35
                obtain ⟨y378, hy378⟩ : ∃ y_ : List (S94), y_ = (x10_3.set (x56_3 : Int).toNat (⟨(rd_T73 l0 x56_3).f1, (rd_T73 l0 x56_3).f1⟩ : S94)) := ⟨_, rfl⟩
                replace H : (impl_RangeOf.l1 k3 l1 l2 y378 l0 (l0.length : Int) (wrap64 (x56_3 + 1))) = some (r1, r2, r3) := by first | (rw [hy378]; with_reducible exact H) | (have H2_ := (Option.bind_some _ _).symm.trans H; rw [hy378]; with_reducible exact H2_) | (have H2_ := (Option.bind_some _ _).symm.trans H; with_reducible exact H2_) | with_reducible exact H | (rw [hy378]; exact H) | exact H
                have Ny378 := Aside0.mk hy378
                clear hy378
                have H' := Aside0.mk H
                clear H
                have p376 : 0 ≤ (x56_3 : Int) := of_decide_eq_true (by first | (with_reducible assumption) | assumption)
                have q376 : x56_3 < (l0.length : Int) := of_decide_eq_true (by first | (with_reducible assumption) | assumption)
                obtain ⟨ad376, e376, hx376_0, hx376_1, hx376_2, hx376_3⟩ := at_T73 HR0.out x56_3 p376 q376
                cases e376
                try replace hx376_0 := (HB.out.cell (World.block_lt_of_cell? w _ hx376_0)).trans hx376_0
                try replace hx376_1 := (HB.out.cell (World.block_lt_of_cell? w _ hx376_1)).trans hx376_1
                try replace hx376_2 := (HB.out.cell (World.block_lt_of_cell? w _ hx376_2)).trans hx376_2
                try replace hx376_3 := (HB.out.cell (World.block_lt_of_cell? w _ hx376_3)).trans hx376_3
                replace p376 := eq_true p376
                replace q376 := eq_true q376
                go_wp2_with (first | ((with_reducible refine gate_dst (N := 12) rfl ?_); (try (refine gate_guard (by rfl) ?_; dsimp only)); refine box_event ?hg (N := 12) ?hd (cs := #[.int .i64 0, .int .i64 0, .int .i64 0, .int .i64 0]) (t := 73) ?hr ?_; (case hd => rfl); (case hg => rfl); (case hr => first | (go_simp; done) | (go_simp; rfl)); intro gb377 hg w37 hbox hb; have n0_ := Aside0.mk (Kd.R_below (by (with_reducible repeat (first | apply Kd.R_alloc | apply Kd.R_drewN | apply Kd.R_drew)); exact HO_10.out) hb); have n1_ := Aside0.mk (below_step (by repeat (first | (with_reducible first | exact HB.out | apply bwA | apply bwN | apply bwD) | exact HB.out)) hb); have n2_ := Aside0.mk (hbox); have n3_ := Aside0.mk ((by rw [hg]; exact (below_size (by repeat (first | (with_reducible first | exact HB.out | apply bwA | apply bwN | apply bwD) | exact HB.out))) : w.heap.size ≤ gb377)); have n4_ := Aside0.mk ((by rw [hg]; exact (below_size (by repeat (first | (with_reducible first | exact HB.out | apply bwA | apply bwN | apply bwD) | exact HB.out))) : w.heap.size ≤ gb377)); clear HO_10; clear HB; have HO_10 := n0_; have HB := n1_; have BK377 := n2_; have GW377 := n3_; have GE377 := n4_; clear n0_ n1_ n2_ n3_ n4_; clear hb hbox hg; have hcz38_0 : w37.cell? ⟨gb377, 0, none⟩ = some (.int .i64 0) := (blk_cell BK377.out 0).trans rfl; have hcz38_1 : w37.cell? ⟨gb377, 1, none⟩ = some (.int .i64 0) := (blk_cell BK377.out 1).trans rfl; have hcz38_2 : w37.cell? ⟨gb377, 2, none⟩ = some (.int .i64 0) := (blk_cell BK377.out 2).trans rfl; have hcz38_3 : w37.cell? ⟨gb377, 3, none⟩ = some (.int .i64 0) := (blk_cell BK377.out 3).trans rfl; have hfz38_0 := blk_frozen BK377.out 0; have hfz38_1 := blk_frozen BK377.out 1; have hfz38_2 := blk_frozen BK377.out 2; have hfz38_3 := blk_frozen BK377.out 3) | ((with_reducible refine gate_store (t := 73) (p := 12) rfl ?_); refine store_event (t := 73) (p := 12) (v := ?vo_w39) (w1 := ((((w37.setCell ⟨gb377, 0, none⟩ (.int .i64 ((rd_T73 l0 x56_3).f0))).setCell ⟨gb377, 1, none⟩ (.int .i64 ((rd_T73 l0 x56_3).f1))).setCell ⟨gb377, 2, none⟩ (.int .i64 ((rd_T73 l0 x56_3).f2))).setCell ⟨gb377, 3, none⟩ (.int .i64 ((rd_T73 l0 x56_3).f3)))) ?hg ?ho ?hn ?hr ?_; (case ho => rfl); (case hg => rfl); (case hn => rfl); (case hr => first | (go_simp; done) | (go_simp; rfl)); intro w39 hw; have n0_ : Aside0 (Kd.R k94 94 w39 w.heap.size (fun _ => True) v372 x10_3) := ⟨(by rw [hw]; exact (by (with_reducible repeat (first | apply Kd.R_alloc | apply Kd.R_drewN | apply Kd.R_drew)); exact Kd.R_mono (Kd.R_far (p := ⟨gb377, 3, none⟩) (Kd.R_far (p := ⟨gb377, 2, none⟩) (Kd.R_far (p := ⟨gb377, 1, none⟩) (Kd.R_far (p := ⟨gb377, 0, none⟩) (Kd.R_types HO_10.out BK377.out (by decide)) (fun _ hk => hk.2) (.int .i64 ((rd_T73 l0 x56_3).f0))) (fun _ hk => hk.2) (.int .i64 ((rd_T73 l0 x56_3).f1))) (fun _ hk => hk.2) (.int .i64 ((rd_T73 l0 x56_3).f2))) (fun _ hk => hk.2) (.int .i64 ((rd_T73 l0 x56_3).f3))) (fun _ hk => trivial)))⟩; have n1_ : Aside0 (w39.heap[gb377]? = some (.cells #[.int .i64 ((rd_T73 l0 x56_3).f0), .int .i64 ((rd_T73 l0 x56_3).f1), .int .i64 ((rd_T73 l0 x56_3).f2), .int .i64 ((rd_T73 l0 x56_3).f3)] 73 (0, 0))) := ⟨(by rw [hw]; exact (by (with_reducible repeat (first | refine blk_drewN ?_ _ | refine blk_drew ?_ | refine blk_alloc ?_ _)); refine blk_put (cs := #[.int .i64 ((rd_T73 l0 x56_3).f0), .int .i64 ((rd_T73 l0 x56_3).f1), .int .i64 ((rd_T73 l0 x56_3).f2), .int .i64 0]) ?_ 3 _ rfl; (with_reducible repeat (first | refine blk_drewN ?_ _ | refine blk_drew ?_ | refine blk_alloc ?_ _)); refine blk_put (cs := #[.int .i64 ((rd_T73 l0 x56_3).f0), .int .i64 ((rd_T73 l0 x56_3).f1), .int .i64 0, .int .i64 0]) ?_ 2 _ rfl; (with_reducible repeat (first | refine blk_drewN ?_ _ | refine blk_drew ?_ | refine blk_alloc ?_ _)); refine blk_put (cs := #[.int .i64 ((rd_T73 l0 x56_3).f0), .int .i64 0, .int .i64 0, .int .i64 0]) ?_ 1 _ rfl; (with_reducible repeat (first | refine blk_drewN ?_ _ | refine blk_drew ?_ | refine blk_alloc ?_ _)); refine blk_put (cs := #[.int .i64 0, .int .i64 0, .int .i64 0, .int .i64 0]) ?_ 0 _ rfl; (with_reducible repeat (first | refine blk_drewN ?_ _ | refine blk_drew ?_ | refine blk_alloc ?_ _)); exact BK377.out))⟩; have n2_ : Aside0 (Below w.heap.size w w39) := ⟨(by rw [hw]; exact (by repeat (first | (with_reducible first | exact HB.out | apply bwA | apply bwN | apply bwD | refine below_set ?_ GE377.out) | exact HB.out)))⟩; clear hw; clear HO_10; clear BK377; clear HB; have HO_10 := n0_; have BK377 := n1_; have HB := n2_; clear n0_ n1_ n2_; have hcz40_0 : w39.cell? ⟨gb377, 0, none⟩ = some (.int .i64 ((rd_T73 l0 x56_3).f0)) := (blk_cell BK377.out 0).trans rfl; have hcz40_1 : w39.cell? ⟨gb377, 1, none⟩ = some (.int .i64 ((rd_T73 l0 x56_3).f1)) := (blk_cell BK377.out 1).trans rfl; have hcz40_2 : w39.cell? ⟨gb377, 2, none⟩ = some (.int .i64 ((rd_T73 l0 x56_3).f2)) := (blk_cell BK377.out 2).trans rfl; have hcz40_3 : w39.cell? ⟨gb377, 3, none⟩ = some (.int .i64 ((rd_T73 l0 x56_3).f3)) := (blk_cell BK377.out 3).trans rfl; have hfz40_0 := blk_frozen BK377.out 0; have hfz40_1 := blk_frozen BK377.out 1; have hfz40_2 := blk_frozen BK377.out 2; have hfz40_3 := blk_frozen BK377.out 3; have p36 : 0 ≤ (x56_3 : Int) := of_decide_eq_true (by first | (with_reducible assumption) | assumption); have q36 : (x56_3 : Int) < ((x10_3.length : Int) : Int) := of_decide_eq_true (by first | (with_reducible assumption) | assumption); obtain ⟨go36, co36, eo36, gb36, gl36, cl36, HG36⟩ := Kd.R_form HO_10.out (by omega); (first | cases eo36 | (injection eo36 with ea_ en_ ec_; (first | subst ea_ | (injection ea_ with ea_; subst ea_)); subst ec_; clear en_)); have GB36 := Aside0.mk gb36; have GG36 := Aside0.mk HG36; clear gb36 gl36 HG36; obtain ⟨ce36, hcl36, hM36, hcc36, hfr36⟩ := Kd.R_elem HO_10.out z94 (x56_3 : Int) p36 q36; obtain rfl := k94_openM hM36; have hx36_0 : w39.cell? ⟨go36, (x56_3 : Int).toNat * 2, none⟩ = some (.int .i64 ((rd_T94 x10_3 x56_3).f0)) := hcc36 0 _ rfl; have hx36_1 : w39.cell? ⟨go36, (x56_3 : Int).toNat * 2 + 1, none⟩ = some (.int .i64 ((rd_T94 x10_3 x56_3).f1)) := hcc36 1 _ rfl; have hf36_0 : w39.frozen? ⟨go36, (x56_3 : Int).toNat * 2, none⟩ = false := hfr36 0; have hf36_1 : w39.frozen? ⟨go36, (x56_3 : Int).toNat * 2 + 1, none⟩ = false := hfr36 1; clear hcl36 hcc36 hfr36; (try clear hM36); replace p36 := eq_true p36; replace q36 := eq_true q36; have HX41 := Aside0.mk (show Kd.R k94 94 w39 w.heap.size (fun _ => True) (.slice (some ⟨go36, 0, none⟩) x10_3.length co36) x10_3 from (by (with_reducible repeat (first | apply Kd.R_alloc | apply Kd.R_drewN | apply Kd.R_drew)); exact HO_10.out)); obtain ⟨ce41, hcl41, hM41, hcc41, hfr41⟩ := Kd.R_elem HX41.out z94 (x56_3 : Int) (of_decide_eq_true (by first | (with_reducible assumption) | assumption)) (by have h_ : (x56_3 : Int) < ((x10_3.length : Int) : Int) := of_decide_eq_true (by first | (with_reducible assumption) | assumption); first | exact h_ | (have e_ := (Kd.R_reads' HO_10.out).1; omega) | simpa using h_); obtain rfl := k94_openM hM41; have HP41 := Kd.R_seg HX41.out (x56_3 : Int) (of_decide_eq_true (by first | (with_reducible assumption) | assumption)) (by have h_ : (x56_3 : Int) < ((x10_3.length : Int) : Int) := of_decide_eq_true (by first | (with_reducible assumption) | assumption); first | exact h_ | (have e_ := (Kd.R_reads' HO_10.out).1; omega) | simpa using h_) (seg := [.int .i64 ((rd_T73 l0 x56_3).f1), .int .i64 ((rd_T73 l0 x56_3).f1)]) (j := 0) hcl41 hcc41 (show 2 ≤ 2 from by decide) (x' := (⟨(rd_T73 l0 x56_3).f1, (rd_T73 l0 x56_3).f1⟩ : S94)) (k94_mkM _ _ _ (⟨(rd_T73 l0 x56_3).f1, (rd_T73 l0 x56_3).f1⟩ : S94) ) (fun _ hk => hk); have hx41_0 := hcc41 0 _ rfl; (try simp only [show (k94).sz = 2 from rfl, Nat.mul_one, Nat.add_zero] at hx41_0); have hf41_0 := hfr41 0; (try simp only [show (k94).sz = 2 from rfl, Nat.mul_one, Nat.add_zero] at hf41_0); have hx41_1 := hcc41 1 _ rfl; (try simp only [show (k94).sz = 2 from rfl, Nat.mul_one, Nat.add_zero] at hx41_1); have hf41_1 := hfr41 1; (try simp only [show (k94).sz = 2 from rfl, Nat.mul_one, Nat.add_zero] at hf41_1); clear hcl41 hcc41 hfr41; (try clear hM41)) | ((with_reducible refine gate_store (t := 94) (p := 88) rfl ?_); refine store_event (t := 94) (p := 88) (v := ?vo_w42) (w1 := ((w39.setCell ⟨go36, (x56_3 : Int).toNat * 2, none⟩ (.int .i64 ((rd_T73 l0 x56_3).f1))).setCell ⟨go36, (x56_3 : Int).toNat * 2 + 1, none⟩ (.int .i64 ((rd_T73 l0 x56_3).f1)))) ?hg ?ho ?hn ?hr ?_; (case ho => rfl); (case hg => rfl); (case hn => rfl); (case hr => first | (go_simp; done) | (go_simp; rfl)); intro w42 hw; have hg : w39.grownBy w42 (some go36) := (by rw [hw]; exact HP41.2); have hp_ : Kd.R k94 94 w42 w.heap.size (fun _ => True) (.slice (some ⟨go36, 0, none⟩) x10_3.length co36) y378 := (by rw [hw, Ny378.out]; exact HP41.1); clear HP41; have n0_ := Aside0.mk (hp_); have n1_ := Aside0.mk (blk_grown (g := gb377) (o := .cells #[.int .i64 ((rd_T73 l0 x56_3).f0), .int .i64 ((rd_T73 l0 x56_3).f1), .int .i64 ((rd_T73 l0 x56_3).f2), .int .i64 ((rd_T73 l0 x56_3).f3)] 73 (0, 0)) (by (with_reducible repeat (first | refine blk_drewN ?_ _ | refine blk_drew ?_ | refine blk_alloc ?_ _)); exact BK377.out) hg (Kd.R_ne HO_10.out BK377.out (by decide))); have n2_ := Aside0.mk ((by rw [hw]; exact below_set (below_set (HB.out) GB36.out) GB36.out : Below w.heap.size w w42)); clear HO_10; clear BK377; clear HB; have HO_10 := n0_; have BK377 := n1_; have HB := n2_; clear n0_ n1_ n2_; clear hg hw hp_))
                go_roundg k3
                case measure => have := HJ3.out; have := HK2.out; have := HK3.out; omega
                case rel => exact ⟨(y378), (wrap64 (x56_3 + 1)), (by first | rfl | (simp; done) | (simp [*]; done)), H', ⟨by have := HJ3.out; have := HK2.out; have := HK3.out; omega⟩, ⟨by (with_reducible repeat (first | apply Kd.R_alloc | apply Kd.R_drewN | apply Kd.R_drew)); exact HO_10.out⟩, ⟨by repeat (first | (with_reducible first | exact HB.out | apply bwA | apply bwN | apply bwD | refine below_set ?_ GE377.out) | exact HB.out)⟩⟩
               ·rw [if_neg c35] at H
                exact absurd H (by simp)
              ·rw [if_neg c34] at H
               have c34b0 : (((rd_T73 l0 x56_3).f0) == 0) = false := beq_eq_false_iff_ne.mpr c34
               have c34b1 : (((rd_T73 l0 x56_3).f0) != 0) = true := bne_iff_ne.mpr c34
               by_cases c43 : ((rd_T73 l0 x56_3).f0) = 1
               ·rw [if_pos c43] at H
                have c43b0 : (((rd_T73 l0 x56_3).f0) == 1) = true := beq_iff_eq.mpr c43
                have c43b1 : (((rd_T73 l0 x56_3).f0) != 1) = false := bne_eq_false_iff_eq.mpr c43
                clear c43
                by_cases c44 : 0 ≤ ((rd_T73 l0 x56_3).f1)
                ·rw [if_pos c44] at H
                 have c44b0 : decide (0 ≤ ((rd_T73 l0 x56_3).f1)) = true := decide_eq_true c44
                 clear c44
                 by_cases c45 : ((rd_T73 l0 x56_3).f1) < (l1.length : Int)
                 ·rw [if_pos c45] at H
                  have c45b0 : decide (((rd_T73 l0 x56_3).f1) < (l1.length : Int)) = true := decide_eq_true c45
                  clear c45
                  by_cases c46 : ((rd_T73 l0 x56_3).f1) < (l2.length : Int)
                  ·rw [if_pos c46] at H
                   have c46b0 : decide (((rd_T73 l0 x56_3).f1) < (l2.length : Int)) = true := decide_eq_true c46
                   clear c46
                   by_cases c47 : x56_3 < (x10_3.length : Int)
                   ·rw [if_pos c47] at H
                    have c47b0 : decide (x56_3 < (x10_3.length : Int)) = true := decide_eq_true c47
                    clear c47
                    obtain ⟨y381, hy381⟩ : ∃ y_ : List (S94), y_ = (x10_3.set (x56_3 : Int).toNat (⟨rd l1 ((rd_T73 l0 x56_3).f1), rd l2 ((rd_T73 l0 x56_3).f1)⟩ : S94)) := ⟨_, rfl⟩
                    replace H : (impl_RangeOf.l1 k3 l1 l2 y381 l0 (l0.length : Int) (wrap64 (x56_3 + 1))) = some (r1, r2, r3) := by first | (rw [hy381]; with_reducible exact H) | (have H2_ := (Option.bind_some _ _).symm.trans H; rw [hy381]; with_reducible exact H2_) | (have H2_ := (Option.bind_some _ _).symm.trans H; with_reducible exact H2_) | with_reducible exact H | (rw [hy381]; exact H) | exact H
                    have Ny381 := Aside0.mk hy381
                    clear hy381
                    have H' := Aside0.mk H
                    clear H
                    have p376 : 0 ≤ (x56_3 : Int) := of_decide_eq_true (by first | (with_reducible assumption) | assumption)
                    have q376 : x56_3 < (l0.length : Int) := of_decide_eq_true (by first | (with_reducible assumption) | assumption)
                    obtain ⟨ad376, e376, hx376_0, hx376_1, hx376_2, hx376_3⟩ := at_T73 HR0.out x56_3 p376 q376
                    cases e376
                    try replace hx376_0 := (HB.out.cell (World.block_lt_of_cell? w _ hx376_0)).trans hx376_0
                    try replace hx376_1 := (HB.out.cell (World.block_lt_of_cell? w _ hx376_1)).trans hx376_1
                    try replace hx376_2 := (HB.out.cell (World.block_lt_of_cell? w _ hx376_2)).trans hx376_2
                    try replace hx376_3 := (HB.out.cell (World.block_lt_of_cell? w _ hx376_3)).trans hx376_3
                    replace p376 := eq_true p376
                    replace q376 := eq_true q376
                    try go_wp2_with (first | ((with_reducible refine gate_dst (N := 12) rfl ?_); (try (refine gate_guard (by rfl) ?_; dsimp only)); refine box_event ?hg (N := 12) ?hd (cs := #[.int .i64 0, .int .i64 0, .int .i64 0, .int .i64 0]) (t := 73) ?hr ?_; (case hd => rfl); (case hg => rfl); (case hr => first | (go_simp; done) | (go_simp; rfl)); intro gb377 hg w49 hbox hb; have n0_ := Aside0.mk (Kd.R_below (by (with_reducible repeat (first | apply Kd.R_alloc | apply Kd.R_drewN | apply Kd.R_drew)); exact HO_10.out) hb); have n1_ := Aside0.mk (below_step (by repeat (first | (with_reducible first | exact HB.out | apply bwA | apply bwN | apply bwD) | exact HB.out)) hb); have n2_ := Aside0.mk (hbox); have n3_ := Aside0.mk ((by rw [hg]; exact (below_size (by repeat (first | (with_reducible first | exact HB.out | apply bwA | apply bwN | apply bwD) | exact HB.out))) : w.heap.size ≤ gb377)); have n4_ := Aside0.mk ((by rw [hg]; exact (below_size (by repeat (first | (with_reducible first | exact HB.out | apply bwA | apply bwN | apply bwD) | exact HB.out))) : w.heap.size ≤ gb377)); clear HO_10; clear HB; have HO_10 := n0_; have HB := n1_; have BK377 := n2_; have GW377 := n3_; have GE377 := n4_; clear n0_ n1_ n2_ n3_ n4_; clear hb hbox hg; have hcz50_0 : w49.cell? ⟨gb377, 0, none⟩ = some (.int .i64 0) := (blk_cell BK377.out 0).trans rfl; have hcz50_1 : w49.cell? ⟨gb377, 1, none⟩ = some (.int .i64 0) := (blk_cell BK377.out 1).trans rfl; have hcz50_2 : w49.cell? ⟨gb377, 2, none⟩ = some (.int .i64 0) := (blk_cell BK377.out 2).trans rfl; have hcz50_3 : w49.cell? ⟨gb377, 3, none⟩ = some (.int .i64 0) := (blk_cell BK377.out 3).trans rfl; have hfz50_0 := blk_frozen BK377.out 0; have hfz50_1 := blk_frozen BK377.out 1; have hfz50_2 := blk_frozen BK377.out 2; have hfz50_3 := blk_frozen BK377.out 3))
                    have n0_ : Aside0 (Kd.R k94 94 ((((w49.setCell ⟨gb377, 0, none⟩ (.int .i64 ((rd_T73 l0 x56_3).f0))).setCell ⟨gb377, 1, none⟩ (.int .i64 ((rd_T73 l0 x56_3).f1))).setCell ⟨gb377, 2, none⟩ (.int .i64 ((rd_T73 l0 x56_3).f2))).setCell ⟨gb377, 3, none⟩ (.int .i64 ((rd_T73 l0 x56_3).f3))) w.heap.size (fun _ => True) v372 x10_3) := ⟨by (with_reducible repeat (first | apply Kd.R_alloc | apply Kd.R_drewN | apply Kd.R_drew)); exact Kd.R_mono (Kd.R_far (p := ⟨gb377, 3, none⟩) (Kd.R_far (p := ⟨gb377, 2, none⟩) (Kd.R_far (p := ⟨gb377, 1, none⟩) (Kd.R_far (p := ⟨gb377, 0, none⟩) (Kd.R_types HO_10.out BK377.out (by decide)) (fun _ hk => hk.2) (.int .i64 ((rd_T73 l0 x56_3).f0))) (fun _ hk => hk.2) (.int .i64 ((rd_T73 l0 x56_3).f1))) (fun _ hk => hk.2) (.int .i64 ((rd_T73 l0 x56_3).f2))) (fun _ hk => hk.2) (.int .i64 ((rd_T73 l0 x56_3).f3))) (fun _ hk => trivial)⟩
                    have n1_ : Aside0 (((((w49.setCell ⟨gb377, 0, none⟩ (.int .i64 ((rd_T73 l0 x56_3).f0))).setCell ⟨gb377, 1, none⟩ (.int .i64 ((rd_T73 l0 x56_3).f1))).setCell ⟨gb377, 2, none⟩ (.int .i64 ((rd_T73 l0 x56_3).f2))).setCell ⟨gb377, 3, none⟩ (.int .i64 ((rd_T73 l0 x56_3).f3))).heap[gb377]? = some (.cells #[.int .i64 ((rd_T73 l0 x56_3).f0), .int .i64 ((rd_T73 l0 x56_3).f1), .int .i64 ((rd_T73 l0 x56_3).f2), .int .i64 ((rd_T73 l0 x56_3).f3)] 73 (0, 0))) := ⟨by (with_reducible repeat (first | refine blk_drewN ?_ _ | refine blk_drew ?_ | refine blk_alloc ?_ _)); refine blk_put (cs := #[.int .i64 ((rd_T73 l0 x56_3).f0), .int .i64 ((rd_T73 l0 x56_3).f1), .int .i64 ((rd_T73 l0 x56_3).f2), .int .i64 0]) ?_ 3 _ rfl; (with_reducible repeat (first | refine blk_drewN ?_ _ | refine blk_drew ?_ | refine blk_alloc ?_ _)); refine blk_put (cs := #[.int .i64 ((rd_T73 l0 x56_3).f0), .int .i64 ((rd_T73 l0 x56_3).f1), .int .i64 0, .int .i64 0]) ?_ 2 _ rfl; (with_reducible repeat (first | refine blk_drewN ?_ _ | refine blk_drew ?_ | refine blk_alloc ?_ _)); refine blk_put (cs := #[.int .i64 ((rd_T73 l0 x56_3).f0), .int .i64 0, .int .i64 0, .int .i64 0]) ?_ 1 _ rfl; (with_reducible repeat (first | refine blk_drewN ?_ _ | refine blk_drew ?_ | refine blk_alloc ?_ _)); refine blk_put (cs := #[.int .i64 0, .int .i64 0, .int .i64 0, .int .i64 0]) ?_ 0 _ rfl; (with_reducible repeat (first | refine blk_drewN ?_ _ | refine blk_drew ?_ | refine blk_alloc ?_ _)); exact BK377.out⟩
                    have n2_ : Aside0 (Below w.heap.size w ((((w49.setCell ⟨gb377, 0, none⟩ (.int .i64 ((rd_T73 l0 x56_3).f0))).setCell ⟨gb377, 1, none⟩ (.int .i64 ((rd_T73 l0 x56_3).f1))).setCell ⟨gb377, 2, none⟩ (.int .i64 ((rd_T73 l0 x56_3).f2))).setCell ⟨gb377, 3, none⟩ (.int .i64 ((rd_T73 l0 x56_3).f3)))) := ⟨by repeat (first | (with_reducible first | exact HB.out | apply bwA | apply bwN | apply bwD | refine below_set ?_ GE377.out) | exact HB.out)⟩
                    (try clear HO_10)
                    (try clear BK377)
                    (try clear HB)
                    generalize ((((w49.setCell ⟨gb377, 0, none⟩ (.int .i64 ((rd_T73 l0 x56_3).f0))).setCell ⟨gb377, 1, none⟩ (.int .i64 ((rd_T73 l0 x56_3).f1))).setCell ⟨gb377, 2, none⟩ (.int .i64 ((rd_T73 l0 x56_3).f2))).setCell ⟨gb377, 3, none⟩ (.int .i64 ((rd_T73 l0 x56_3).f3))) = w51 at n0_ n1_ n2_ ⊢
                    have HO_10 := n0_
                    have BK377 := n1_
                    have HB := n2_
                    clear n0_ n1_ n2_
                    have n0_ := Aside0.mk (Kd.R_drew HO_10.out)
                    have n1_ := Aside0.mk (blk_drew BK377.out)
                    have n2_ := Aside0.mk (below_drew1 HB.out)
                    clear HO_10
                    clear BK377
                    clear HB
                    have HO_10 := n0_
                    have BK377 := n1_
                    have HB := n2_
                    clear n0_ n1_ n2_
                    have p379 : 0 ≤ (((rd_T73 l0 x56_3).f1) : Int) := of_decide_eq_true (by first | (with_reducible assumption) | assumption)
                    have q379 : ((rd_T73 l0 x56_3).f1) < (l1.length : Int) := of_decide_eq_true (by first | (with_reducible assumption) | assumption)
                    obtain ⟨ad379, e379, hx379_0⟩ := Kd.at_int HR1.out ((rd_T73 l0 x56_3).f1) p379 q379
                    have hw379_0 := hx379_0
                    cases e379
                    try replace hx379_0 := (HB.out.cell (World.block_lt_of_cell? w _ hx379_0)).trans hx379_0
                    replace p379 := eq_true p379
                    replace q379 := eq_true q379
                    have p380 : 0 ≤ (((rd_T73 l0 x56_3).f1) : Int) := of_decide_eq_true (by first | (with_reducible assumption) | assumption)
                    have q380 : ((rd_T73 l0 x56_3).f1) < (l2.length : Int) := of_decide_eq_true (by first | (with_reducible assumption) | assumption)
                    obtain ⟨ad380, e380, hx380_0⟩ := Kd.at_int HR2.out ((rd_T73 l0 x56_3).f1) p380 q380
                    have hw380_0 := hx380_0
                    cases e380
                    try replace hx380_0 := (HB.out.cell (World.block_lt_of_cell? w _ hx380_0)).trans hx380_0
                    replace p380 := eq_true p380
                    replace q380 := eq_true q380
                    have p48 : 0 ≤ (x56_3 : Int) := of_decide_eq_true (by first | (with_reducible assumption) | assumption)
                    have q48 : (x56_3 : Int) < ((x10_3.length : Int) : Int) := of_decide_eq_true (by first | (with_reducible assumption) | assumption)
                    obtain ⟨go48, co48, eo48, gb48, gl48, cl48, HG48⟩ := Kd.R_form HO_10.out (by omega)
                    (first | cases eo48 | (injection eo48 with ea_ en_ ec_; (first | subst ea_ | (injection ea_ with ea_; subst ea_)); subst ec_; clear en_))
                    have GB48 := Aside0.mk gb48
                    have GG48 := Aside0.mk HG48
                    clear gb48 gl48 HG48
                    obtain ⟨ce48, hcl48, hM48, hcc48, hfr48⟩ := Kd.R_elem HO_10.out z94 (x56_3 : Int) p48 q48
                    obtain rfl := k94_openM hM48
                    have hx48_0 : World.cell? _ ⟨go48, (x56_3 : Int).toNat * 2, none⟩ = some (.int .i64 ((rd_T94 x10_3 x56_3).f0)) := hcc48 0 _ rfl
                    have hx48_1 : World.cell? _ ⟨go48, (x56_3 : Int).toNat * 2 + 1, none⟩ = some (.int .i64 ((rd_T94 x10_3 x56_3).f1)) := hcc48 1 _ rfl
                    have hf48_0 : World.frozen? _ ⟨go48, (x56_3 : Int).toNat * 2, none⟩ = false := hfr48 0
                    have hf48_1 : World.frozen? _ ⟨go48, (x56_3 : Int).toNat * 2 + 1, none⟩ = false := hfr48 1
                    clear hcl48 hcc48 hfr48; (try clear hM48)
                    replace p48 := eq_true p48
                    replace q48 := eq_true q48
                    obtain ⟨ce53, hcl53, hM53, hcc53, hfr53⟩ := Kd.R_elem HO_10.out z94 (x56_3 : Int) (of_decide_eq_true (by first | (with_reducible assumption) | assumption)) (by have h_ : (x56_3 : Int) < ((x10_3.length : Int) : Int) := of_decide_eq_true (by first | (with_reducible assumption) | assumption); first | exact h_ | (have e_ := (Kd.R_reads' HO_10.out).1; omega) | simpa using h_)
                    obtain rfl := k94_openM hM53
                    have HP53 := (Kd.R_seg HO_10.out (x56_3 : Int) (of_decide_eq_true (by first | (with_reducible assumption) | assumption)) (by have h_ : (x56_3 : Int) < ((x10_3.length : Int) : Int) := of_decide_eq_true (by first | (with_reducible assumption) | assumption); first | exact h_ | (have e_ := (Kd.R_reads' HO_10.out).1; omega) | simpa using h_) (seg := [.int .i64 (rd l1 ((rd_T73 l0 x56_3).f1)), .int .i64 (rd l2 ((rd_T73 l0 x56_3).f1))]) (j := 0) hcl53 hcc53 (show 2 ≤ 2 from by decide) (x' := (⟨rd l1 ((rd_T73 l0 x56_3).f1), rd l2 ((rd_T73 l0 x56_3).f1)⟩ : S94)) (k94_mkM _ _ _ (⟨rd l1 ((rd_T73 l0 x56_3).f1), rd l2 ((rd_T73 l0 x56_3).f1)⟩ : S94) ) (fun _ hk => hk)).1
                    rw [← Ny381.out] at HP53
                    have HQ53 := Aside0.mk HP53
                    clear hcl53 hcc53 hfr53 HP53; (try clear hM53)
                    refine start_ (n := 15) (S := fun w' => w'.cell? ⟨gb377, 0, none⟩ = some (.int .i64 ((rd_T73 l0 x56_3).f0)) ∧ w'.cell? ⟨gb377, 1, none⟩ = some (.int .i64 ((rd_T73 l0 x56_3).f1)) ∧ w'.cell? ⟨gb377, 2, none⟩ = some (.int .i64 ((rd_T73 l0 x56_3).f2)) ∧ w'.cell? ⟨gb377, 3, none⟩ = some (.int .i64 ((rd_T73 l0 x56_3).f3)) ∧ w'.cell? (ad379.add (((rd_T73 l0 x56_3).f1)).toNat) = some (.int .i64 (rd l1 ((rd_T73 l0 x56_3).f1))) ∧ w'.cell? (ad380.add (((rd_T73 l0 x56_3).f1)).toNat) = some (.int .i64 (rd l2 ((rd_T73 l0 x56_3).f1)))) (ds := [14]) (Pt.bm 15 0) (by kernel_rfl) rfl rfl ⟨(blk_cell BK377.out 0).trans rfl, (blk_cell BK377.out 1).trans rfl, (blk_cell BK377.out 2).trans rfl, (blk_cell BK377.out 3).trans rfl, ((HB.out.cell (World.block_lt_of_cell? w _ hw379_0)).trans hw379_0), ((HB.out.cell (World.block_lt_of_cell? w _ hw380_0)).trans hw380_0)⟩ (fun hHeld => ?_); refine with_tabW impl_RangeOf.tab18 impl_RangeOf.bits18 (fun HT_ HW_ => ?_)
                    generalize w51.drew = w52 at HO_10 BK377 HB GG48 HQ53 hf48_0 hf48_1 hx379_0 hx380_0 hx48_0 hx48_1 hHeld ⊢
                    refine Pt.pu 0 (some 91) (Pt.bm 15 1) (any_of HT_.out (by kernel_rfl)) ?_
                    refine Pt.pu 1 (some 92) (Pt.bm 15 3) (any_of HT_.out (by kernel_rfl)) ?_
                    refine Pt.pu 2 (some 93) (Pt.bm 15 7) (any_of HT_.out (by kernel_rfl)) ?_
                    refine Pt.pu 3 (some 94) (Pt.bm 15 15) (any_of HT_.out (by kernel_rfl)) ?_
                    refine Pt.pu 7 (some 98) (Pt.bm 15 143) (any_of HT_.out (by kernel_rfl)) ?_
                    refine Pt.pu 8 (some 99) (Pt.bm 15 399) (any_of HT_.out (by kernel_rfl)) ?_
                    refine Pt.tk 4 (some 95) (Pt.bm 15 415) rfl rfl (take_ofW HT_.out HW_.out (by kernel_rfl)) hHeld (Or.inl ⟨by rfl, by rintro w' ⟨s0, s1, s2, s3, s4, s5⟩; go_simp; with_reducible rfl⟩) ?_
                    refine Pt.pu 5 (some 96) (Pt.bm 15 447) (any_of HT_.out (by kernel_rfl)) ?_
                    refine Pt.tk 6 (some 97) (Pt.bm 15 511) rfl rfl (take_ofW HT_.out HW_.out (by kernel_rfl)) hHeld (Or.inl ⟨by rfl, by rintro w' ⟨s0, s1, s2, s3, s4, s5⟩; go_simp; with_reducible rfl⟩) ?_
                    refine Pt.tk 9 (some 100) (Pt.bm 15 1023) rfl rfl (take_ofW HT_.out HW_.out (by kernel_rfl)) hHeld (Or.inl ⟨by rfl, by rintro w' ⟨s0, s1, s2, s3, s4, s5⟩; go_simp; with_reducible rfl⟩) ?_
                    refine Pt.pu 10 (some 101) (Pt.bm 15 2047) (any_of HT_.out (by kernel_rfl)) ?_
                    refine Pt.tk 11 (some 102) (Pt.bm 15 4095) rfl rfl (take_ofW HT_.out HW_.out (by kernel_rfl)) hHeld (Or.inl ⟨by rfl, by rintro w' ⟨s0, s1, s2, s3, s4, s5⟩; go_simp; with_reducible rfl⟩) ?_
                    refine Pt.pu 12 (some 103) (Pt.bm 15 8191) (any_of HT_.out (by kernel_rfl)) ?_
                    refine Pt.pu 13 (some 104) (Pt.bm 15 16383) (any_of HT_.out (by kernel_rfl)) ?_
                    refine last_ (i := 14) (N := none) (Pt.bm 15 32767) rfl rfl (one_of HT_.out (by kernel_rfl)) (by decide) (fun K hK => ?_)
                    refine skip_ (w1 := ?_) (by rfl) rfl ?_ ?_
                    rotate_left
                    ·go_simp
                     rfl
                    refine hK.out _ _ ?_
                    clear hK K
                    refine done_ (done_of HT_.out (by kernel_rfl)) ?_
                    try go_wp2
                    go_roundg k3
                    case measure => have := HJ3.out; have := HK2.out; have := HK3.out; omega
                    case rel => exact ⟨(y381), (wrap64 (x56_3 + 1)), (by first | rfl | (simp; done) | (simp [*]; done)), H', ⟨by have := HJ3.out; have := HK2.out; have := HK3.out; omega⟩, ⟨by (with_reducible repeat (first | apply Kd.R_alloc | apply Kd.R_drewN | apply Kd.R_drew)); exact HQ53.out⟩, ⟨by repeat (first | (with_reducible first | exact HB.out | apply bwA | apply bwN | apply bwD | refine below_set ?_ GB48.out | refine below_set ?_ GB48.out | refine below_set ?_ GE377.out) | exact HB.out)⟩⟩
                   ·rw [if_neg c47] at H
                    exact absurd H (by simp)
                  ·rw [if_neg c46] at H
                   exact absurd H (by simp)
                 ·rw [if_neg c45] at H
                  exact absurd H (by simp)
                ·rw [if_neg c44] at H
                 exact absurd H (by simp)
               ·rw [if_neg c43] at H
                have c43b0 : (((rd_T73 l0 x56_3).f0) == 1) = false := beq_eq_false_iff_ne.mpr c43
                have c43b1 : (((rd_T73 l0 x56_3).f0) != 1) = true := bne_iff_ne.mpr c43
                by_cases c54 : 0 ≤ ((rd_T73 l0 x56_3).f2)
                ·rw [if_pos c54] at H
                 have c54b0 : decide (0 ≤ ((rd_T73 l0 x56_3).f2)) = true := decide_eq_true c54
                 clear c54
                 by_cases c55 : ((rd_T73 l0 x56_3).f2) < (x10_3.length : Int)
                 ·rw [if_pos c55] at H
                  have c55b0 : decide (((rd_T73 l0 x56_3).f2) < (x10_3.length : Int)) = true := decide_eq_true c55
                  clear c55
                  by_cases c56 : 0 ≤ ((rd_T73 l0 x56_3).f3)
                  ·rw [if_pos c56] at H
                   have c56b0 : decide (0 ≤ ((rd_T73 l0 x56_3).f3)) = true := decide_eq_true c56
                   clear c56
                   by_cases c57 : ((rd_T73 l0 x56_3).f3) < (x10_3.length : Int)
                   ·rw [if_pos c57] at H
                    have c57b0 : decide (((rd_T73 l0 x56_3).f3) < (x10_3.length : Int)) = true := decide_eq_true c57
                    clear c57
                    replace H := Option.bind_eq_some_iff.mp H
                    obtain ⟨⟨t384, t385⟩, A580, H⟩ := H
                    replace H : (if x56_3 < (x10_3.length : Int) then (impl_RangeOf.l1 k3 l1 l2 (x10_3.set (x56_3 : Int).toNat (⟨t384, t385⟩ : S94)) l0 (l0.length : Int) (wrap64 (x56_3 + 1))) else (none)) = some (r1, r2, r3) := H
                    have A58 := Aside0.mk A580
                    clear A580
                    by_cases c59 : x56_3 < (x10_3.length : Int)
                    ·rw [if_pos c59] at H
                     have c59b0 : decide (x56_3 < (x10_3.length : Int)) = true := decide_eq_true c59
                     clear c59
                     obtain ⟨y386, hy386⟩ : ∃ y_ : List (S94), y_ = (x10_3.set (x56_3 : Int).toNat (⟨t384, t385⟩ : S94)) := ⟨_, rfl⟩
                     replace H : (impl_RangeOf.l1 k3 l1 l2 y386 l0 (l0.length : Int) (wrap64 (x56_3 + 1))) = some (r1, r2, r3) := by first | (rw [hy386]; with_reducible exact H) | (have H2_ := (Option.bind_some _ _).symm.trans H; rw [hy386]; with_reducible exact H2_) | (have H2_ := (Option.bind_some _ _).symm.trans H; with_reducible exact H2_) | with_reducible exact H | (rw [hy386]; exact H) | exact H
                     have Ny386 := Aside0.mk hy386
                     clear hy386
                     have H' := Aside0.mk H
                     clear H
                     have p376 : 0 ≤ (x56_3 : Int) := of_decide_eq_true (by first | (with_reducible assumption) | assumption)
                     have q376 : x56_3 < (l0.length : Int) := of_decide_eq_true (by first | (with_reducible assumption) | assumption)
                     obtain ⟨ad376, e376, hx376_0, hx376_1, hx376_2, hx376_3⟩ := at_T73 HR0.out x56_3 p376 q376
                     cases e376
                     try replace hx376_0 := (HB.out.cell (World.block_lt_of_cell? w _ hx376_0)).trans hx376_0
                     try replace hx376_1 := (HB.out.cell (World.block_lt_of_cell? w _ hx376_1)).trans hx376_1
                     try replace hx376_2 := (HB.out.cell (World.block_lt_of_cell? w _ hx376_2)).trans hx376_2
                     try replace hx376_3 := (HB.out.cell (World.block_lt_of_cell? w _ hx376_3)).trans hx376_3
                     replace p376 := eq_true p376
                     replace q376 := eq_true q376
                     try go_wp2_with (first | ((with_reducible refine gate_dst (N := 12) rfl ?_); (try (refine gate_guard (by rfl) ?_; dsimp only)); refine box_event ?hg (N := 12) ?hd (cs := #[.int .i64 0, .int .i64 0, .int .i64 0, .int .i64 0]) (t := 73) ?hr ?_; (case hd => rfl); (case hg => rfl); (case hr => first | (go_simp; done) | (go_simp; rfl)); intro gb377 hg w61 hbox hb; have n0_ := Aside0.mk (Kd.R_below (by (with_reducible repeat (first | apply Kd.R_alloc | apply Kd.R_drewN | apply Kd.R_drew)); exact HO_10.out) hb); have n1_ := Aside0.mk (below_step (by repeat (first | (with_reducible first | exact HB.out | apply bwA | apply bwN | apply bwD) | exact HB.out)) hb); have n2_ := Aside0.mk (hbox); have n3_ := Aside0.mk ((by rw [hg]; exact (below_size (by repeat (first | (with_reducible first | exact HB.out | apply bwA | apply bwN | apply bwD) | exact HB.out))) : w.heap.size ≤ gb377)); have n4_ := Aside0.mk ((by rw [hg]; exact (below_size (by repeat (first | (with_reducible first | exact HB.out | apply bwA | apply bwN | apply bwD) | exact HB.out))) : w.heap.size ≤ gb377)); clear HO_10; clear HB; have HO_10 := n0_; have HB := n1_; have BK377 := n2_; have GW377 := n3_; have GE377 := n4_; clear n0_ n1_ n2_ n3_ n4_; clear hb hbox hg; have hcz62_0 : w61.cell? ⟨gb377, 0, none⟩ = some (.int .i64 0) := (blk_cell BK377.out 0).trans rfl; have hcz62_1 : w61.cell? ⟨gb377, 1, none⟩ = some (.int .i64 0) := (blk_cell BK377.out 1).trans rfl; have hcz62_2 : w61.cell? ⟨gb377, 2, none⟩ = some (.int .i64 0) := (blk_cell BK377.out 2).trans rfl; have hcz62_3 : w61.cell? ⟨gb377, 3, none⟩ = some (.int .i64 0) := (blk_cell BK377.out 3).trans rfl; have hfz62_0 := blk_frozen BK377.out 0; have hfz62_1 := blk_frozen BK377.out 1; have hfz62_2 := blk_frozen BK377.out 2; have hfz62_3 := blk_frozen BK377.out 3))
                     have n0_ : Aside0 (Kd.R k94 94 ((((w61.setCell ⟨gb377, 0, none⟩ (.int .i64 ((rd_T73 l0 x56_3).f0))).setCell ⟨gb377, 1, none⟩ (.int .i64 ((rd_T73 l0 x56_3).f1))).setCell ⟨gb377, 2, none⟩ (.int .i64 ((rd_T73 l0 x56_3).f2))).setCell ⟨gb377, 3, none⟩ (.int .i64 ((rd_T73 l0 x56_3).f3))) w.heap.size (fun _ => True) v372 x10_3) := ⟨by (with_reducible repeat (first | apply Kd.R_alloc | apply Kd.R_drewN | apply Kd.R_drew)); exact Kd.R_mono (Kd.R_far (p := ⟨gb377, 3, none⟩) (Kd.R_far (p := ⟨gb377, 2, none⟩) (Kd.R_far (p := ⟨gb377, 1, none⟩) (Kd.R_far (p := ⟨gb377, 0, none⟩) (Kd.R_types HO_10.out BK377.out (by decide)) (fun _ hk => hk.2) (.int .i64 ((rd_T73 l0 x56_3).f0))) (fun _ hk => hk.2) (.int .i64 ((rd_T73 l0 x56_3).f1))) (fun _ hk => hk.2) (.int .i64 ((rd_T73 l0 x56_3).f2))) (fun _ hk => hk.2) (.int .i64 ((rd_T73 l0 x56_3).f3))) (fun _ hk => trivial)⟩
                     have n1_ : Aside0 (((((w61.setCell ⟨gb377, 0, none⟩ (.int .i64 ((rd_T73 l0 x56_3).f0))).setCell ⟨gb377, 1, none⟩ (.int .i64 ((rd_T73 l0 x56_3).f1))).setCell ⟨gb377, 2, none⟩ (.int .i64 ((rd_T73 l0 x56_3).f2))).setCell ⟨gb377, 3, none⟩ (.int .i64 ((rd_T73 l0 x56_3).f3))).heap[gb377]? = some (.cells #[.int .i64 ((rd_T73 l0 x56_3).f0), .int .i64 ((rd_T73 l0 x56_3).f1), .int .i64 ((rd_T73 l0 x56_3).f2), .int .i64 ((rd_T73 l0 x56_3).f3)] 73 (0, 0))) := ⟨by (with_reducible repeat (first | refine blk_drewN ?_ _ | refine blk_drew ?_ | refine blk_alloc ?_ _)); refine blk_put (cs := #[.int .i64 ((rd_T73 l0 x56_3).f0), .int .i64 ((rd_T73 l0 x56_3).f1), .int .i64 ((rd_T73 l0 x56_3).f2), .int .i64 0]) ?_ 3 _ rfl; (with_reducible repeat (first | refine blk_drewN ?_ _ | refine blk_drew ?_ | refine blk_alloc ?_ _)); refine blk_put (cs := #[.int .i64 ((rd_T73 l0 x56_3).f0), .int .i64 ((rd_T73 l0 x56_3).f1), .int .i64 0, .int .i64 0]) ?_ 2 _ rfl; (with_reducible repeat (first | refine blk_drewN ?_ _ | refine blk_drew ?_ | refine blk_alloc ?_ _)); refine blk_put (cs := #[.int .i64 ((rd_T73 l0 x56_3).f0), .int .i64 0, .int .i64 0, .int .i64 0]) ?_ 1 _ rfl; (with_reducible repeat (first | refine blk_drewN ?_ _ | refine blk_drew ?_ | refine blk_alloc ?_ _)); refine blk_put (cs := #[.int .i64 0, .int .i64 0, .int .i64 0, .int .i64 0]) ?_ 0 _ rfl; (with_reducible repeat (first | refine blk_drewN ?_ _ | refine blk_drew ?_ | refine blk_alloc ?_ _)); exact BK377.out⟩
                     have n2_ : Aside0 (Below w.heap.size w ((((w61.setCell ⟨gb377, 0, none⟩ (.int .i64 ((rd_T73 l0 x56_3).f0))).setCell ⟨gb377, 1, none⟩ (.int .i64 ((rd_T73 l0 x56_3).f1))).setCell ⟨gb377, 2, none⟩ (.int .i64 ((rd_T73 l0 x56_3).f2))).setCell ⟨gb377, 3, none⟩ (.int .i64 ((rd_T73 l0 x56_3).f3)))) := ⟨by repeat (first | (with_reducible first | exact HB.out | apply bwA | apply bwN | apply bwD | refine below_set ?_ GE377.out) | exact HB.out)⟩
                     (try clear HO_10)
                     (try clear BK377)
                     (try clear HB)
                     generalize ((((w61.setCell ⟨gb377, 0, none⟩ (.int .i64 ((rd_T73 l0 x56_3).f0))).setCell ⟨gb377, 1, none⟩ (.int .i64 ((rd_T73 l0 x56_3).f1))).setCell ⟨gb377, 2, none⟩ (.int .i64 ((rd_T73 l0 x56_3).f2))).setCell ⟨gb377, 3, none⟩ (.int .i64 ((rd_T73 l0 x56_3).f3))) = w63 at n0_ n1_ n2_ ⊢
                     have HO_10 := n0_
                     have BK377 := n1_
                     have HB := n2_
                     clear n0_ n1_ n2_
                     have n0_ := Aside0.mk (Kd.R_drew HO_10.out)
                     have n1_ := Aside0.mk (blk_drew BK377.out)
                     have n2_ := Aside0.mk (below_drew1 HB.out)
                     clear HO_10
                     clear BK377
                     clear HB
                     have HO_10 := n0_
                     have BK377 := n1_
                     have HB := n2_
                     clear n0_ n1_ n2_
                     obtain ⟨Ao65, co65, eo65⟩ := Kd.R_slice HO_10.out
                     (first | subst eo65 | (injection eo65 with f1_ f2_ f3_; have f4_ := f1_.symm; have f5_ := f3_.symm; clear f1_ f2_ f3_; subst f4_; subst f5_))
                     have p382 : 0 ≤ (((rd_T73 l0 x56_3).f2) : Int) := of_decide_eq_true (by first | (with_reducible assumption) | assumption)
                     have q382 : ((rd_T73 l0 x56_3).f2) < (x10_3.length : Int) := of_decide_eq_true (by first | (with_reducible assumption) | assumption)
                     obtain ⟨ad382, e382, hx382_0, hx382_1⟩ := at_T94 (Kd.R_reads' HO_10.out).2.2 ((rd_T73 l0 x56_3).f2) p382 q382
                     cases e382
                     replace p382 := eq_true p382
                     replace q382 := eq_true q382
                     have p383 : 0 ≤ (((rd_T73 l0 x56_3).f3) : Int) := of_decide_eq_true (by first | (with_reducible assumption) | assumption)
                     have q383 : ((rd_T73 l0 x56_3).f3) < (x10_3.length : Int) := of_decide_eq_true (by first | (with_reducible assumption) | assumption)
                     obtain ⟨ad383, e383, hx383_0, hx383_1⟩ := at_T94 (Kd.R_reads' HO_10.out).2.2 ((rd_T73 l0 x56_3).f3) p383 q383
                     obtain rfl : ad382 = ad383 := (by injection e383)
                     replace p383 := eq_true p383
                     replace q383 := eq_true q383
                     refine start_ (n := 17) (S := fun w' => w'.cell? ⟨gb377, 0, none⟩ = some (.int .i64 ((rd_T73 l0 x56_3).f0)) ∧ w'.cell? ⟨gb377, 1, none⟩ = some (.int .i64 ((rd_T73 l0 x56_3).f1)) ∧ w'.cell? ⟨gb377, 2, none⟩ = some (.int .i64 ((rd_T73 l0 x56_3).f2)) ∧ w'.cell? ⟨gb377, 3, none⟩ = some (.int .i64 ((rd_T73 l0 x56_3).f3)) ∧ w'.cell? (ad382.add ((((rd_T73 l0 x56_3).f2)).toNat * 2)) = some (.int .i64 ((rd_T94 x10_3 ((rd_T73 l0 x56_3).f2)).f0)) ∧ w'.cell? ⟨(ad382.add ((((rd_T73 l0 x56_3).f2)).toNat * 2)).block, (ad382.add ((((rd_T73 l0 x56_3).f2)).toNat * 2)).off + 1, none⟩ = some (.int .i64 ((rd_T94 x10_3 ((rd_T73 l0 x56_3).f2)).f1)) ∧ w'.cell? (ad382.add ((((rd_T73 l0 x56_3).f3)).toNat * 2)) = some (.int .i64 ((rd_T94 x10_3 ((rd_T73 l0 x56_3).f3)).f0)) ∧ w'.cell? ⟨(ad382.add ((((rd_T73 l0 x56_3).f3)).toNat * 2)).block, (ad382.add ((((rd_T73 l0 x56_3).f3)).toNat * 2)).off + 1, none⟩ = some (.int .i64 ((rd_T94 x10_3 ((rd_T73 l0 x56_3).f3)).f1))) (ds := [16]) (Pt.bm 17 0) (by kernel_rfl) rfl rfl ⟨(blk_cell BK377.out 0).trans rfl, (blk_cell BK377.out 1).trans rfl, (blk_cell BK377.out 2).trans rfl, (blk_cell BK377.out 3).trans rfl, hx382_0, hx382_1, hx383_0, hx383_1⟩ (fun hHeld => ?_); refine with_tabW impl_RangeOf.tab14 impl_RangeOf.bits14 (fun HT_ HW_ => ?_)
                     generalize w63.drew = w64 at HO_10 BK377 HB hx382_0 hx382_1 hx383_0 hx383_1 hHeld ⊢
                     refine Pt.pu 0 (some 63) (Pt.bm 17 1) (any_of HT_.out (by kernel_rfl)) ?_
                     refine Pt.pu 1 (some 64) (Pt.bm 17 3) (any_of HT_.out (by kernel_rfl)) ?_
                     refine Pt.pu 2 (some 65) (Pt.bm 17 7) (any_of HT_.out (by kernel_rfl)) ?_
                     refine Pt.pu 4 (some 67) (Pt.bm 17 23) (any_of HT_.out (by kernel_rfl)) ?_
                     refine Pt.pu 5 (some 68) (Pt.bm 17 55) (any_of HT_.out (by kernel_rfl)) ?_
                     refine Pt.pu 9 (some 72) (Pt.bm 17 567) (any_of HT_.out (by kernel_rfl)) ?_
                     refine Pt.pu 10 (some 73) (Pt.bm 17 1591) (any_of HT_.out (by kernel_rfl)) ?_
                     refine Pt.tk 3 (some 66) (Pt.bm 17 1599) rfl rfl (take_ofW HT_.out HW_.out (by kernel_rfl)) hHeld (Or.inl ⟨by rfl, by rintro w' ⟨s0, s1, s2, s3, s4, s5, s6, s7⟩; go_simp; with_reducible rfl⟩) ?_
                     refine Pt.tk 6 (some 69) (Pt.bm 17 1663) rfl rfl (take_ofW HT_.out HW_.out (by kernel_rfl)) hHeld (Or.inl ⟨by rfl, by rintro w' ⟨s0, s1, s2, s3, s4, s5, s6, s7⟩; go_simp; with_reducible rfl⟩) ?_
                     refine Pt.pu 7 (some 70) (Pt.bm 17 1791) (any_of HT_.out (by kernel_rfl)) ?_
                     refine Pt.tk 8 (some 71) (Pt.bm 17 2047) rfl rfl (take_ofW HT_.out HW_.out (by kernel_rfl)) hHeld (Or.inl ⟨by rfl, by rintro w' ⟨s0, s1, s2, s3, s4, s5, s6, s7⟩; go_simp; with_reducible rfl⟩) ?_
                     refine Pt.tk 11 (some 74) (Pt.bm 17 4095) rfl rfl (take_ofW HT_.out HW_.out (by kernel_rfl)) hHeld (Or.inl ⟨by rfl, by rintro w' ⟨s0, s1, s2, s3, s4, s5, s6, s7⟩; go_simp; with_reducible rfl⟩) ?_
                     refine Pt.pu 12 (some 75) (Pt.bm 17 8191) (any_of HT_.out (by kernel_rfl)) ?_
                     refine Pt.tk 13 (some 76) (Pt.bm 17 16383) rfl rfl (take_ofW HT_.out HW_.out (by kernel_rfl)) hHeld (Or.inl ⟨by rfl, by rintro w' ⟨s0, s1, s2, s3, s4, s5, s6, s7⟩; go_simp; with_reducible rfl⟩) ?_
                     refine one_ (i := 14) (N := some 77) (Pt.bm 17 32767) rfl rfl (one_of HT_.out (by kernel_rfl)) (by decide) (fun K hK => ?_)
                     refine goes_ Try.func75 (by kernel_rfl) rfl #[.int .i64 ((rd_T73 l0 x56_3).f0), .agg #[.int .i64 ((rd_T94 x10_3 ((rd_T73 l0 x56_3).f2)).f0), .int .i64 ((rd_T94 x10_3 ((rd_T73 l0 x56_3).f2)).f1)], .agg #[.int .i64 ((rd_T94 x10_3 ((rd_T73 l0 x56_3).f3)).f0), .int .i64 ((rd_T94 x10_3 ((rd_T73 l0 x56_3).f3)).f1)]] (by rfl) rfl rfl (by (try simp only [List.map_toArray, List.map_cons, List.map_nil]); first | done | rfl | (simp only [List.length_drop, List.length_take]; rfl)) ?_
                     with_reducible refine (impl_spanOf.calls k3 ((rd_T73 l0 x56_3).f0) ((rd_T94 x10_3 ((rd_T73 l0 x56_3).f2)).f0) ((rd_T94 x10_3 ((rd_T73 l0 x56_3).f2)).f1) ((rd_T94 x10_3 ((rd_T73 l0 x56_3).f3)).f0) ((rd_T94 x10_3 ((rd_T73 l0 x56_3).f3)).f1) t384 t385 _ A58.out).mono ?_
                     rintro e w66 ⟨rfl, hb⟩
                     have HS4_ := (hb.cell (World.block_lt_of_cell? _ _ (hHeld.2.2.2.2.1))).trans (hHeld.2.2.2.2.1)
                     have HS5_ := (hb.cell (World.block_lt_of_cell? _ _ (hHeld.2.2.2.2.2.1))).trans (hHeld.2.2.2.2.2.1)
                     have HS6_ := (hb.cell (World.block_lt_of_cell? _ _ (hHeld.2.2.2.2.2.2.1))).trans (hHeld.2.2.2.2.2.2.1)
                     have HS7_ := (hb.cell (World.block_lt_of_cell? _ _ (hHeld.2.2.2.2.2.2.2))).trans (hHeld.2.2.2.2.2.2.2)
                     refine ⟨_, rfl, ?_⟩
                     have n0_ := Aside0.mk (Kd.R_below (by (with_reducible repeat (first | apply Kd.R_alloc | apply Kd.R_drewN | apply Kd.R_drew)); exact HO_10.out) hb)
                     have n1_ := Aside0.mk (blk_below (g := gb377) (o := .cells #[.int .i64 ((rd_T73 l0 x56_3).f0), .int .i64 ((rd_T73 l0 x56_3).f1), .int .i64 ((rd_T73 l0 x56_3).f2), .int .i64 ((rd_T73 l0 x56_3).f3)] 73 (0, 0)) (by (with_reducible repeat (first | refine blk_drewN ?_ _ | refine blk_drew ?_ | refine blk_alloc ?_ _)); exact BK377.out) hb)
                     have n2_ := Aside0.mk (below_step (by repeat (first | (with_reducible first | exact HB.out | apply bwA | apply bwN | apply bwD | refine below_set ?_ GE377.out) | exact HB.out)) hb)
                     clear HO_10
                     clear BK377
                     clear HB
                     have HO_10 := n0_
                     have BK377 := n1_
                     have HB := n2_
                     clear n0_ n1_ n2_
                     (try clear hb)
                     (try clear hb2)
                     (try clear hk)
                     (try clear hi)
                     have p60 : 0 ≤ (x56_3 : Int) := of_decide_eq_true (by first | (with_reducible assumption) | assumption)
                     have q60 : (x56_3 : Int) < ((x10_3.length : Int) : Int) := of_decide_eq_true (by first | (with_reducible assumption) | assumption)
                     obtain ⟨go60, co60, eo60, gb60, gl60, cl60, HG60⟩ := Kd.R_form HO_10.out (by omega)
                     (first | cases eo60 | (injection eo60 with ea_ en_ ec_; (first | subst ea_ | (injection ea_ with ea_; subst ea_)); subst ec_; clear en_))
                     have GB60 := Aside0.mk gb60
                     have GG60 := Aside0.mk HG60
                     clear gb60 gl60 HG60
                     (first | simp only [add_plain] at hx382_0 | skip)
                     (first | simp only [add_plain] at hx382_1 | skip)
                     (first | simp only [add_plain] at hx383_0 | skip)
                     (first | simp only [add_plain] at hx383_1 | skip)
                     obtain ⟨ce60, hcl60, hM60, hcc60, hfr60⟩ := Kd.R_elem HO_10.out z94 (x56_3 : Int) p60 q60
                     obtain rfl := k94_openM hM60
                     have hx60_0 : World.cell? _ ⟨go60, (x56_3 : Int).toNat * 2, none⟩ = some (.int .i64 ((rd_T94 x10_3 x56_3).f0)) := hcc60 0 _ rfl
                     have hx60_1 : World.cell? _ ⟨go60, (x56_3 : Int).toNat * 2 + 1, none⟩ = some (.int .i64 ((rd_T94 x10_3 x56_3).f1)) := hcc60 1 _ rfl
                     have hf60_0 : World.frozen? _ ⟨go60, (x56_3 : Int).toNat * 2, none⟩ = false := hfr60 0
                     have hf60_1 : World.frozen? _ ⟨go60, (x56_3 : Int).toNat * 2 + 1, none⟩ = false := hfr60 1
                     clear hcl60 hcc60 hfr60; (try clear hM60)
                     replace p60 := eq_true p60
                     replace q60 := eq_true q60
                     obtain ⟨ce67, hcl67, hM67, hcc67, hfr67⟩ := Kd.R_elem HO_10.out z94 (x56_3 : Int) (of_decide_eq_true (by first | (with_reducible assumption) | assumption)) (by have h_ : (x56_3 : Int) < ((x10_3.length : Int) : Int) := of_decide_eq_true (by first | (with_reducible assumption) | assumption); first | exact h_ | (have e_ := (Kd.R_reads' HO_10.out).1; omega) | simpa using h_)
                     obtain rfl := k94_openM hM67
                     have HP67 := (Kd.R_seg HO_10.out (x56_3 : Int) (of_decide_eq_true (by first | (with_reducible assumption) | assumption)) (by have h_ : (x56_3 : Int) < ((x10_3.length : Int) : Int) := of_decide_eq_true (by first | (with_reducible assumption) | assumption); first | exact h_ | (have e_ := (Kd.R_reads' HO_10.out).1; omega) | simpa using h_) (seg := [.int .i64 t384, .int .i64 t385]) (j := 0) hcl67 hcc67 (show 2 ≤ 2 from by decide) (x' := (⟨t384, t385⟩ : S94)) (k94_mkM _ _ _ (⟨t384, t385⟩ : S94) ) (fun _ hk => hk)).1
                     rw [← Ny386.out] at HP67
                     have HQ67 := Aside0.mk HP67
                     clear hcl67 hcc67 hfr67 HP67; (try clear hM67)
                     refine hK.out _ _ ⟨(blk_cell BK377.out 0).trans rfl, (blk_cell BK377.out 1).trans rfl, (blk_cell BK377.out 2).trans rfl, (blk_cell BK377.out 3).trans rfl, HS4_, HS5_, HS6_, HS7_⟩ (fun hHeld => ?_)
                     clear hK K
                     refine norm_ (a' := ?_) ?_ ?_
                     rotate_left
                     ·show Act.put _ (some 77) _ = _
                      simp only [Act.put, List.setIfInBounds_toArray, List.set_cons_zero, List.set_cons_succ, i64_w, i32_w]
                      rfl
                     refine Pt.pu 15 (some 78) (Pt.bm 17 65535) (any_of HT_.out (by kernel_rfl)) ?_
                     refine last_ (i := 16) (N := none) (Pt.bm 17 131071) rfl rfl (one_of HT_.out (by kernel_rfl)) (by decide) (fun K hK => ?_)
                     refine skip_ (w1 := ?_) (by rfl) rfl ?_ ?_
                     rotate_left
                     ·go_simp
                      rfl
                     refine hK.out _ _ ?_
                     clear hK K
                     refine done_ (done_of HT_.out (by kernel_rfl)) ?_
                     try go_wp2
                     go_roundg k3
                     case measure => have := HJ3.out; have := HK2.out; have := HK3.out; omega
                     case rel => exact ⟨(y386), (wrap64 (x56_3 + 1)), (by first | rfl | (simp; done) | (simp [*]; done)), H', ⟨by have := HJ3.out; have := HK2.out; have := HK3.out; omega⟩, ⟨by (with_reducible repeat (first | apply Kd.R_alloc | apply Kd.R_drewN | apply Kd.R_drew)); exact HQ67.out⟩, ⟨by repeat (first | (with_reducible first | exact HB.out | apply bwA | apply bwN | apply bwD | refine below_set ?_ GB60.out | refine below_set ?_ GB60.out | refine below_set ?_ GE377.out) | exact HB.out)⟩⟩
                    ·rw [if_neg c59] at H
                     exact absurd H (by simp)
                   ·rw [if_neg c57] at H
                    exact absurd H (by simp)
                  ·rw [if_neg c56] at H
                   exact absurd H (by simp)
                 ·rw [if_neg c55] at H
                  exact absurd H (by simp)
                ·rw [if_neg c54] at H
                 exact absurd H (by simp)
             ·rw [if_neg c33] at H
              exact absurd H (by simp)
            ·rw [if_neg c32] at H
             exact absurd H (by simp)
           ·rw [if_neg c31] at H
            have c31b0 : decide (x56_3 < (l0.length : Int)) = false := decide_eq_false c31
            clear c31
            obtain ⟨ji68, hji68⟩ : ∃ j_ : Int, (wrap64 ((x10_3.length : Int) - 1)) = j_ := ⟨_, rfl⟩
            replace H : (if 0 ≤ (ji68) then (if (ji68) < (x10_3.length : Int) then (some ((rd_T94 x10_3 (ji68)).f0, (rd_T94 x10_3 (ji68)).f1, true)) else (none)) else (none)) = some (r1, r2, r3) := by first | (rw [hji68] at H; exact H) | (simp only [hji68] at H ⊢; exact H)
            have hji68w : (IntKind.i64.wrap ((x10_3.length : Int) - 1)) = ji68 := (i64_w _).trans hji68
            by_cases c69 : 0 ≤ (ji68)
            ·rw [if_pos c69] at H
             have c69b0 : decide (0 ≤ (ji68)) = true := decide_eq_true c69
             clear c69
             by_cases c70 : (ji68) < (x10_3.length : Int)
             ·rw [if_pos c70] at H
              have c70b0 : decide ((ji68) < (x10_3.length : Int)) = true := decide_eq_true c70
              clear c70
              simp only [Option.some.injEq, Prod.mk.injEq] at H
              obtain ⟨rfl, rfl, rfl⟩ := H
              obtain ⟨Ao71, co71, eo71⟩ := Kd.R_slice HO_10.out
              subst eo71
              have p374 : 0 ≤ ((ji68) : Int) := of_decide_eq_true (by first | (with_reducible assumption) | assumption)
              have q374 : (ji68) < (x10_3.length : Int) := of_decide_eq_true (by first | (with_reducible assumption) | assumption)
              obtain ⟨ad374, e374, hx374_0, hx374_1⟩ := at_T94 (Kd.R_reads' HO_10.out).2.2 (ji68) p374 q374
              cases e374
              replace p374 := eq_true p374
              replace q374 := eq_true q374
              try go_wp2_with (first | ((with_reducible refine gate_dst (N := 13) rfl ?_); (try (refine gate_guard (by rfl) ?_; dsimp only)); refine box_event ?hg (N := 13) ?hd (cs := #[.int .i64 0, .int .i64 0]) (t := 94) ?hr ?_; (case hd => rfl); (case hg => rfl); (case hr => first | (go_simp; done) | (go_simp; rfl)); intro gb375 hg w72 hbox hb; have n0_ := Aside0.mk (Kd.R_below (Kd.R_elderB (by (with_reducible repeat (first | apply Kd.R_alloc | apply Kd.R_drewN | apply Kd.R_drew)); exact HO_10.out) gb375 (Nat.le_of_eq hg.symm)) hb); have n1_ := Aside0.mk (below_step (by repeat (first | (with_reducible first | exact HB.out | apply bwA | apply bwN | apply bwD) | exact HB.out)) hb); have n2_ := Aside0.mk (hbox); have n3_ := Aside0.mk ((by rw [hg]; exact (below_size (by repeat (first | (with_reducible first | exact HB.out | apply bwA | apply bwN | apply bwD) | exact HB.out))) : w.heap.size ≤ gb375)); have n4_ := Aside0.mk ((by rw [hg]; exact (below_size (by repeat (first | (with_reducible first | exact HB.out | apply bwA | apply bwN | apply bwD) | exact HB.out))) : w.heap.size ≤ gb375)); clear HO_10; clear HB; have HO_10 := n0_; have HB := n1_; have BK375 := n2_; have GW375 := n3_; have GE375 := n4_; clear n0_ n1_ n2_ n3_ n4_; clear hb hbox hg; have hcz73_0 : w72.cell? ⟨gb375, 0, none⟩ = some (.int .i64 0) := (blk_cell BK375.out 0).trans rfl; have hcz73_1 : w72.cell? ⟨gb375, 1, none⟩ = some (.int .i64 0) := (blk_cell BK375.out 1).trans rfl; have hfz73_0 := blk_frozen BK375.out 0; have hfz73_1 := blk_frozen BK375.out 1))
              have n0_ : Aside0 (Kd.R k94 94 ((w72.setCell ⟨gb375, 0, none⟩ (.int .i64 ((rd_T94 x10_3 (ji68)).f0))).setCell ⟨gb375, 1, none⟩ (.int .i64 ((rd_T94 x10_3 (ji68)).f1))) w.heap.size (fun k_ => k_ ≠ gb375) (.slice (some ad374) x10_3.length co71) x10_3) := ⟨by (with_reducible repeat (first | apply Kd.R_alloc | apply Kd.R_drewN | apply Kd.R_drew)); exact Kd.R_mono (Kd.R_far (p := ⟨gb375, 1, none⟩) (Kd.R_far (p := ⟨gb375, 0, none⟩) (Kd.R_mono HO_10.out (fun k_ hk => (⟨hk, hk.2⟩ : _ ∧ k_ ≠ gb375))) (fun _ hk => hk.2) (.int .i64 ((rd_T94 x10_3 (ji68)).f0))) (fun _ hk => hk.2) (.int .i64 ((rd_T94 x10_3 (ji68)).f1))) (fun _ hk => hk.1.2)⟩
              have n1_ : Aside0 (((w72.setCell ⟨gb375, 0, none⟩ (.int .i64 ((rd_T94 x10_3 (ji68)).f0))).setCell ⟨gb375, 1, none⟩ (.int .i64 ((rd_T94 x10_3 (ji68)).f1))).heap[gb375]? = some (.cells #[.int .i64 ((rd_T94 x10_3 (ji68)).f0), .int .i64 ((rd_T94 x10_3 (ji68)).f1)] 94 (0, 0))) := ⟨by (with_reducible repeat (first | refine blk_drewN ?_ _ | refine blk_drew ?_ | refine blk_alloc ?_ _)); refine blk_put (cs := #[.int .i64 ((rd_T94 x10_3 (ji68)).f0), .int .i64 0]) ?_ 1 _ rfl; (with_reducible repeat (first | refine blk_drewN ?_ _ | refine blk_drew ?_ | refine blk_alloc ?_ _)); refine blk_put (cs := #[.int .i64 0, .int .i64 0]) ?_ 0 _ rfl; (with_reducible repeat (first | refine blk_drewN ?_ _ | refine blk_drew ?_ | refine blk_alloc ?_ _)); exact BK375.out⟩
              have n2_ : Aside0 (Below w.heap.size w ((w72.setCell ⟨gb375, 0, none⟩ (.int .i64 ((rd_T94 x10_3 (ji68)).f0))).setCell ⟨gb375, 1, none⟩ (.int .i64 ((rd_T94 x10_3 (ji68)).f1)))) := ⟨by repeat (first | (with_reducible first | exact HB.out | apply bwA | apply bwN | apply bwD | refine below_set ?_ GE375.out) | exact HB.out)⟩
              (try clear HO_10)
              (try clear BK375)
              (try clear HB)
              generalize ((w72.setCell ⟨gb375, 0, none⟩ (.int .i64 ((rd_T94 x10_3 (ji68)).f0))).setCell ⟨gb375, 1, none⟩ (.int .i64 ((rd_T94 x10_3 (ji68)).f1))) = w74 at n0_ n1_ n2_ ⊢
              have HO_10 := n0_
              have BK375 := n1_
              have HB := n2_
              clear n0_ n1_ n2_
              have n0_ := Aside0.mk (Kd.R_drew HO_10.out)
              have n1_ := Aside0.mk (blk_drew BK375.out)
              have n2_ := Aside0.mk (below_drew1 HB.out)
              clear HO_10
              clear BK375
              clear HB
              have HO_10 := n0_
              have BK375 := n1_
              have HB := n2_
              clear n0_ n1_ n2_
              refine start_ (n := 7) (S := fun w' => w'.cell? ⟨gb375, 0, none⟩ = some (.int .i64 ((rd_T94 x10_3 (ji68)).f0)) ∧ w'.cell? ⟨gb375, 1, none⟩ = some (.int .i64 ((rd_T94 x10_3 (ji68)).f1))) (ds := []) (Pt.bm 7 0) (by kernel_rfl) rfl rfl ⟨(blk_cell BK375.out 0).trans rfl, (blk_cell BK375.out 1).trans rfl⟩ (fun hHeld => ?_)
              generalize w74.drew = w75 at HO_10 BK375 HB hHeld ⊢
              refine Pt.pu 0 (some 112) (Pt.bm 7 1) (by kernel_rfl) ?_
              refine Pt.pu 2 (some 114) (Pt.bm 7 5) (by kernel_rfl) ?_
              refine Pt.tk 1 (some 113) (Pt.bm 7 7) rfl rfl (by kernel_rfl) hHeld (Or.inl ⟨by rfl, by rintro w' ⟨s0, s1⟩; go_simp; with_reducible rfl⟩) ?_
              refine Pt.pu 4 (some 6) (Pt.bm 7 23) (by kernel_rfl) ?_
              refine Pt.tk 3 (some 115) (Pt.bm 7 31) rfl rfl (by kernel_rfl) hHeld (Or.inl ⟨by rfl, by rintro w' ⟨s0, s1⟩; go_simp; with_reducible rfl⟩) ?_
              refine Pt.pu 5 (some 7) (Pt.bm 7 63) (by kernel_rfl) ?_
              refine Pt.pu 6 (some 8) (Pt.bm 7 127) (by kernel_rfl) ?_
              refine done_ (by kernel_rfl) ?_
              try go_wp2
              go_ret3
              exact ⟨by first | rfl | (simp [errW_none, errW_some] <;> rfl) | (simp only [← hji68]; first | rfl | (simp [errW_none, errW_some] <;> rfl)) | (simp [*, errW_none, errW_some] <;> rfl), by repeat (first | (with_reducible first | exact HB.out | apply bwA | apply bwN | apply bwD | refine below_set ?_ GE375.out) | exact HB.out)⟩
             ·rw [if_neg c70] at H
              exact absurd H (by simp)
            ·rw [if_neg c69] at H
             exact absurd H (by simp)
        ·rw [if_neg c28] at H
         exact absurd H (by simp)
       ·rw [if_neg c27] at H
        exact absurd H (by simp)

end Go.Proofs.Ytpfkgmcbogcmoaa.QFnExactRangeOf
