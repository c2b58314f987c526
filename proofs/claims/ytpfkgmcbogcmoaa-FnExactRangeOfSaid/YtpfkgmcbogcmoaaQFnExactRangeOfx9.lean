-- Written by a program of this session (mk.py). Lean checks it.
import Derived.Test.YtpfkgmcbogcmoaaQFnExactRangeOfx0
import Derived.Test.YtpfkgmcbogcmoaaQFnExactRangeOfx8
namespace Go.Proofs.Ytpfkgmcbogcmoaa.QFnExactRangeOf
open Go.RowKit Go.Proofs.YtpfkgmcbogcmoaaW.PrintWords Go.Proofs.YtpfkgmcbogcmoaaW.PrintLast Go.Proofs.YtpfkgmcbogcmoaaW.PrintMore
attribute [local go_sem] max2_int min2_int max_two min_two max_three min_three max_four min_four   -- for this text's walks alone
set_option linter.unusedVariables false
set_option linter.unusedSimpArgs false

/-! ### impl_kindsOf: function 65 -/
mutual
def impl_kindsOf.j0 : Nat → List (S73) → Int → Bool → Option (List Int)
 | 0, _, _, _ => none
 | k + 1, x0, x1, x20 => if x20 = true then (some ([] : List Int)) else (if 0 ≤ (x0.length : Int) then (if ((x0.length : Int) : Int).toNat ≤ 35184372088832 then (impl_kindsOf.l0 k x1 (([] : List Int)) x0 (x0.length : Int) 0) else (none)) else (none))
def impl_kindsOf.l0 : Nat → Int → List Int → List (S73) → Int → Int → Option (List Int)
 | 0, _, _, _, _, _ => none
 | k + 1, x1, x5, x24, x25, x26 => if x26 < x25 then (if 0 ≤ x26 then (if x26 < (x24.length : Int) then ((impl_parts.f k ((rd_T73 x24 x26).f0)).bind fun bt313 => ((impl_in.f ((rd_T73 x24 x26).f0) 0 9).bind fun t316 => (if ((rd_T73 x24 x26).f0) = 0 then ((impl_in.f ((rd_T73 x24 x26).f1) (-9999) 9999).bind fun t317 => (if t317 = true then (if ((rd_T73 x24 x26).f2) = 0 then (if (((rd_T73 x24 x26).f3) = 0) then (if x5.length < 17592186044416 then (impl_kindsOf.l0 k x1 (x5 ++ [bt313.2.2]) x24 x25 (wrap64 (x26 + 1))) else (none)) else (some ([] : List Int))) else (some ([] : List Int))) else (some ([] : List Int)))) else (if ((rd_T73 x24 x26).f0) = 1 then ((impl_in.f ((rd_T73 x24 x26).f1) 0 (wrap64 (x1 - 1))).bind fun t321 => (if t321 = true then (if ((rd_T73 x24 x26).f2) = 0 then (if (((rd_T73 x24 x26).f3) = 0) then (if x5.length < 17592186044416 then (impl_kindsOf.l0 k x1 (x5 ++ [bt313.2.2]) x24 x25 (wrap64 (x26 + 1))) else (none)) else (some ([] : List Int))) else (some ([] : List Int))) else (some ([] : List Int)))) else (if t316 = true then (if ((rd_T73 x24 x26).f1) = 0 then ((impl_in.f ((rd_T73 x24 x26).f2) 0 (wrap64 (x26 - 1))).bind fun t325 => (if t325 = true then ((impl_in.f ((rd_T73 x24 x26).f3) 0 (wrap64 (x26 - 1))).bind fun t326 => (if t326 = true then (if 0 ≤ ((rd_T73 x24 x26).f2) then (if ((rd_T73 x24 x26).f2) < (x5.length : Int) then (if (rd x5 ((rd_T73 x24 x26).f2)) = bt313.2.1 then (if 0 ≤ ((rd_T73 x24 x26).f3) then (if ((rd_T73 x24 x26).f3) < (x5.length : Int) then (if (rd x5 ((rd_T73 x24 x26).f3)) = bt313.2.1 then (if bt313.1 = 2 then (if x5.length < 17592186044416 then (impl_kindsOf.l0 k x1 (x5 ++ [bt313.2.2]) x24 x25 (wrap64 (x26 + 1))) else (none)) else (if (((rd_T73 x24 x26).f2) = ((rd_T73 x24 x26).f3)) then (if x5.length < 17592186044416 then (impl_kindsOf.l0 k x1 (x5 ++ [bt313.2.2]) x24 x25 (wrap64 (x26 + 1))) else (none)) else (some ([] : List Int)))) else (some ([] : List Int))) else (none)) else (none)) else (some ([] : List Int))) else (none)) else (none)) else (some ([] : List Int)))) else (some ([] : List Int)))) else (some ([] : List Int))) else (some ([] : List Int))))))) else (none)) else (none)) else (some x5)
end
def impl_kindsOf.f (k : Nat) (l0 : List (S73)) (a1 : Int) : Option (List Int) := (impl_in.f a1 0 5).bind fun t306 => (if t306 = true then ((impl_in.f (l0.length : Int) 1 40).bind fun t307 => (impl_kindsOf.j0 k l0 a1 (!t307))) else (impl_kindsOf.j0 k l0 a1 true))
theorem impl_kindsOf.mono_l : ∀ k, (∀ y0 y1 y2, LeO (impl_kindsOf.j0 k y0 y1 y2) (impl_kindsOf.j0 (k + 1) y0 y1 y2)) ∧ (∀ y0 y1 y2 y3 y4, LeO (impl_kindsOf.l0 k y0 y1 y2 y3 y4) (impl_kindsOf.l0 (k + 1) y0 y1 y2 y3 y4))
 | 0 => ⟨fun _ _ _ r h => by simp [impl_kindsOf.j0] at h, fun _ _ _ _ _ r h => by simp [impl_kindsOf.l0] at h⟩
 | k + 1 => by
  obtain ⟨ih0, ih1⟩ := impl_kindsOf.mono_l k
  refine ⟨?_, ?_⟩
  ·intro y0 y1 y2
   unfold impl_kindsOf.j0
   repeat' first
   | (with_reducible exact ih0 _ _ _)
   | (with_reducible exact ih1 _ _ _ _ _)
   | (with_reducible exact impl_parts.mono _ _)
   | (with_reducible exact LeO.refl _)
   | (with_reducible exact LeO.none _)
   | (with_reducible refine LeO.ite ?_ ?_)
   | (with_reducible refine LeO.bind ?_ (fun _ => ?_))
   | exact ih0 _ _ _
   | exact ih1 _ _ _ _ _
   | exact impl_parts.mono _ _
   | exact LeO.none _
   | refine LeO.ite ?_ ?_
   | refine LeO.bind ?_ (fun _ => ?_)
  ·intro y0 y1 y2 y3 y4
   unfold impl_kindsOf.l0
   repeat' first
   | (with_reducible exact ih0 _ _ _)
   | (with_reducible exact ih1 _ _ _ _ _)
   | (with_reducible exact impl_parts.mono _ _)
   | (with_reducible exact LeO.refl _)
   | (with_reducible exact LeO.none _)
   | (with_reducible refine LeO.ite ?_ ?_)
   | (with_reducible refine LeO.bind ?_ (fun _ => ?_))
   | exact ih0 _ _ _
   | exact ih1 _ _ _ _ _
   | exact impl_parts.mono _ _
   | exact LeO.none _
   | refine LeO.ite ?_ ?_
   | refine LeO.bind ?_ (fun _ => ?_)
theorem impl_kindsOf.mono : ∀ a0 a1 k, LeO (impl_kindsOf.f k a0 a1) (impl_kindsOf.f (k + 1) a0 a1) := by
 intro a0 a1 k
 obtain ⟨ih0, ih1⟩ := impl_kindsOf.mono_l k
 unfold impl_kindsOf.f
 repeat' first
   | (with_reducible exact ih0 _ _ _)
   | (with_reducible exact ih1 _ _ _ _ _)
   | (with_reducible exact impl_parts.mono _ _)
   | (with_reducible exact LeO.refl _)
   | (with_reducible exact LeO.none _)
   | (with_reducible refine LeO.ite ?_ ?_)
   | (with_reducible refine LeO.bind ?_ (fun _ => ?_))
   | exact ih0 _ _ _
   | exact ih1 _ _ _ _ _
   | exact impl_parts.mono _ _
   | exact LeO.none _
   | refine LeO.ite ?_ ?_
   | refine LeO.bind ?_ (fun _ => ?_)
set_option maxHeartbeats 8000000 in
set_option maxRecDepth 100000 in
theorem impl_kindsOf.calls_n (k : Nat) (A0 : Option Addr) (c0 : Nat) (l0 : List (S73)) (a1 : Int) (r : List Int) (w : World) (hr0 : Kd.C k73 w A0 l0.length l0) (hc0 : l0.length ≤ c0) (h : impl_kindsOf.f k l0 a1 = some r) :
  Calls Try.prog 65 #[.slice A0 l0.length c0, .int .i64 a1] w fun e w' => ∃ v0_ : Value, e = .returned (v0_) ∧ Kd.R (Kd.int .i64) 3 w' w.heap.size (fun _ => True) v0_ r ∧ Below w.heap.size w w' ∧ (r = [] → v0_ = .slice none 0 0) := by
 have hu73 := Try.underlying73
 have HR0 := Aside0.mk hr0
 have HC0 := Aside0.mk hc0
 clear hr0 hc0
 have HB := Aside0.mk (Below.refl w.heap.size w)
 have H : ((impl_in.f a1 0 5).bind fun t306 => (if t306 = true then ((impl_in.f (l0.length : Int) 1 40).bind fun t307 => (impl_kindsOf.j0 k l0 a1 (!t307))) else (impl_kindsOf.j0 k l0 a1 true))) = some r := h
 clear h
 have HC3 := Aside0.mk H
 clear H
 go_enter Try.func65, Try.ntmps65
 go_upto_region 1 with (fail)
 go_cut [20] (fun v20 wc => ∃ (kq : Nat) (x20_2 : Bool), v20 = .bool x20_2 ∧ Aside0 (impl_kindsOf.j0 kq l0 a1 x20_2 = some r) ∧ Aside0 (kq ≤ k) ∧ Aside0 (Below w.heap.size w wc) ∧ Aside0 (x20_2 = false → 1 ≤ l0.length))
 case first =>
  have H := HC3.out
  clear HC3
  replace H := Option.bind_eq_some_iff.mp H
  obtain ⟨t306, A40, H⟩ := H
  replace H : (if t306 = true then ((impl_in.f (l0.length : Int) 1 40).bind fun t307 => (impl_kindsOf.j0 k l0 a1 (!t307))) else (impl_kindsOf.j0 k l0 a1 true)) = some r := H
  have A4 := Aside0.mk A40
  clear A40
  by_cases c5 : t306 = true
  ·subst c5
   have H1 : ((impl_in.f (l0.length : Int) 1 40).bind fun t307 => (impl_kindsOf.j0 k l0 a1 (!t307))) = some r := by rw [if_pos rfl] at H; exact H
   clear H
   have H := H1
   clear H1
   replace H := Option.bind_eq_some_iff.mp H
   obtain ⟨t307, A60, H⟩ := H
   replace H : (impl_kindsOf.j0 k l0 a1 (!t307)) = some r := H
   have A6 := Aside0.mk A60
   clear A60
   have H' := Aside0.mk H
   clear H
   go_wp2_with (first | ((with_reducible refine gate_callee (f := 62) rfl ?_); refine goesL_ (some 13) rfl rfl Try.func62 (by kernel_rfl) rfl #[.int .i64 a1, .int .i64 0, .int .i64 5] rfl (by (try simp only [List.map_toArray, List.map_cons, List.map_nil]); first | done | rfl | (simp only [List.length_drop, List.length_take]; rfl)) ?_; (with_reducible refine (impl_in.calls a1 0 5 true _ A4.out).mono ?_); rintro e w' ⟨rfl, ⟨nd, rfl⟩⟩; refine ⟨_, rfl, ?_⟩) | (go_at_call 62; (with_reducible refine (impl_in.calls (l0.length : Int) 1 40 t307 _ A6.out).mono ?_); rintro e w' ⟨rfl, ⟨nd, rfl⟩⟩))
   go_meet
   case rel => exact ⟨_, (!t307), (by first | rfl | (simp; done) | (simp [*]; done)), H', ⟨by first | omega | exact Nat.le_refl _⟩, ⟨by repeat (first | (with_reducible first | exact HB.out | apply bwA | apply bwN | apply bwD) | exact HB.out)⟩, ⟨fun en_ => by have e6_ := A6.out; rw [Bool.not_eq_false'] at en_; subst en_; unfold impl_in.f at e6_; exact Decidable.byContradiction fun hn_ => by rw [if_neg (by omega)] at e6_; cases e6_⟩⟩
  ·replace c5 := Bool.eq_false_iff.mpr c5
   subst c5
   have H1 : (impl_kindsOf.j0 k l0 a1 true) = some r := by rw [if_neg (show ¬ (false = true) by decide)] at H; exact H
   clear H
   have H := H1
   clear H1
   have H' := Aside0.mk H
   clear H
   go_wp2_with (first | ((with_reducible refine gate_callee (f := 62) rfl ?_); refine goesL_ (some 13) rfl rfl Try.func62 (by kernel_rfl) rfl #[.int .i64 a1, .int .i64 0, .int .i64 5] rfl (by (try simp only [List.map_toArray, List.map_cons, List.map_nil]); first | done | rfl | (simp only [List.length_drop, List.length_take]; rfl)) ?_; (with_reducible refine (impl_in.calls a1 0 5 false _ A4.out).mono ?_); rintro e w' ⟨rfl, ⟨nd, rfl⟩⟩; refine ⟨_, rfl, ?_⟩))
   go_meet
   case rel => exact ⟨_, (true), (by first | rfl | (simp; done) | (simp [*]; done)), H', ⟨by first | omega | exact Nat.le_refl _⟩, ⟨by repeat (first | (with_reducible first | exact HB.out | apply bwA | apply bwN | apply bwD) | exact HB.out)⟩, ⟨fun en_ => absurd en_ (by decide)⟩⟩
 case rest =>
  clear HC3
  try clear p2
  try clear c5
  try clear c6
  obtain ⟨kq, x20_2, rfl, HA, HJ2, HB, NE_⟩ := hcut
  cases kq with
  | zero => exact absurd HA.out (by simp [impl_kindsOf.j0])
  | succ kj2 =>
   have H := HA.out
   clear HA
   simp only [impl_kindsOf.j0] at H
   by_cases c7 : x20_2 = true
   ·subst c7
    have H1 : (some ([] : List Int)) = some r := by rw [if_pos rfl] at H; exact H
    clear H
    have H := H1
    clear H1
    obtain rfl := Option.some.inj H
    go_wp2
    go_ret
    exact ⟨_, by first | rfl | (simp [errW_none, errW_some] <;> rfl) | (simp [*, errW_none, errW_some] <;> rfl), by first | exact Kd.R_nil _ _ _ _ _ | exact Kd.N_nil _ _ _ _ _ | exact Kd.V_nil _ _ _ _ _ | exact Kd.Q_nil _ _ _ _ _ | exact Kd.S_nil _ _ _ _ _, by repeat (first | (with_reducible first | exact HB.out | apply bwA | apply bwN | apply bwD) | exact HB.out), by (try intro _); rfl⟩
   ·replace c7 := Bool.eq_false_iff.mpr c7
    subst c7
    have H1 : (if 0 ≤ (l0.length : Int) then (if ((l0.length : Int) : Int).toNat ≤ 35184372088832 then (impl_kindsOf.l0 kj2 a1 (([] : List Int)) l0 (l0.length : Int) 0) else (none)) else (none)) = some r := by rw [if_neg (show ¬ (false = true) by decide)] at H; exact H
    clear H
    have H := H1
    clear H1
    by_cases c8 : 0 ≤ (l0.length : Int)
    ·rw [if_pos c8] at H
     have c8b0 := eq_true c8
     have c8b1 : decide (0 ≤ (l0.length : Int)) = true := decide_eq_true c8
     clear c8
     by_cases c9 : ((l0.length : Int) : Int).toNat ≤ 35184372088832
     ·rw [if_pos c9] at H
      have c9b0 := eq_true c9
      have c9b1 : decide (((l0.length : Int) : Int).toNat ≤ 35184372088832) = true := decide_eq_true c9
      clear c9
      obtain ⟨y308, hy308⟩ : ∃ y_ : List Int, y_ = (([] : List Int)) := ⟨_, rfl⟩
      replace H : (impl_kindsOf.l0 kj2 a1 y308 l0 (l0.length : Int) 0) = some r := by first | (rw [hy308]; with_reducible exact H) | (have H2_ := (Option.bind_some _ _).symm.trans H; rw [hy308]; with_reducible exact H2_) | (have H2_ := (Option.bind_some _ _).symm.trans H; with_reducible exact H2_) | with_reducible exact H | (rw [hy308]; exact H) | exact H
      have Ny308 := Aside0.mk hy308
      clear hy308
      have H' := Aside0.mk H
      clear H
      go_wp2_with (first | ((with_reducible refine gate_dst (N := 23) rfl ?_); (try (refine gate_guard (by rfl) ?_; dsimp only)); refine Copy.R_make0 (Kd.int .i64) _ 3 rfl (N := 23) rfl 23 _ _ rfl (l0.length : Int) rfl rfl Try.underlying23 (.int .i64 0) 8 info3 (by omega) (ok := fun _ => True) trivial (of_decide_eq_true (by first | (with_reducible assumption) | assumption)) (Nat.le_trans (Nat.mul_le_mul_right _ (of_decide_eq_true (by first | (with_reducible assumption) | assumption) : (l0.length : Int).toNat ≤ 35184372088832)) (by omega)) (Below.refl _ _) (Nat.le_refl _) ?_; intro v309 w10 ho11 hb hg_ hnew_; clear hg_ hnew_; (first | rw [← Ny308.out] at ho11 | (simp only [Int.reduceToNat] at ho11; rw [← Ny308.out] at ho11)); have n0_ := Aside0.mk (Kd.R_lower ho11 (below_size (by repeat (first | (with_reducible first | exact HB.out | apply bwA | apply bwN | apply bwD) | exact HB.out)))); have n1_ := Aside0.mk (below_step (by repeat (first | (with_reducible first | exact HB.out | apply bwA | apply bwN | apply bwD) | exact HB.out)) hb); clear HB; have HO310 := n0_; have HB := n1_; clear n0_ n1_; clear hb ho11))
      go_loopg [5, 26] kj2 (fun kq v5 v26 w' => ∃ (x5_2 : List Int) (x26_2 : Int), v26 = .int .i64 x26_2 ∧ Aside0 (impl_kindsOf.l0 kq a1 x5_2 l0 (l0.length : Int) x26_2 = some r) ∧ Aside0 (kq ≤ kj2) ∧ Aside0 (Kd.R (Kd.int .i64) 3 w' w.heap.size (fun _ => True) v5 x5_2) ∧ Aside0 (Below w.heap.size w w') ∧ Aside0 (x26_2 ≤ (x5_2.length : Int)))
      case atStart => exact ⟨(y308), (0), (by first | rfl | (simp; done) | (simp [*]; done)), H', ⟨Nat.le_refl _⟩, ⟨by (with_reducible repeat (first | apply Kd.R_alloc | apply Kd.R_drewN | apply Kd.R_drew)); exact HO310.out⟩, ⟨by repeat (first | (with_reducible first | exact HB.out | apply bwA | apply bwN | apply bwD) | exact HB.out)⟩, ⟨by omega⟩⟩
      case round =>
       clear H'
       try clear p2
       try clear c5
       try clear c6
       try clear c7
       try clear c8
       try clear c8b0
       try clear c8b1
       try clear c9
       try clear c9b0
       try clear c9b1
       try clear p2
       obtain ⟨x5_2, x26_2, rfl, HA, HK2, HO_5, HB, HL_⟩ := hrel
       cases gk with
       | zero => exact absurd HA.out (by simp [impl_kindsOf.l0])
       | succ k2 =>
        have H := HA.out
        clear HA
        simp only [impl_kindsOf.l0] at H
        by_cases c12 : x26_2 < (l0.length : Int)
        ·rw [if_pos c12] at H
         have c12b0 : decide (x26_2 < (l0.length : Int)) = true := decide_eq_true c12
         clear c12
         by_cases c13 : 0 ≤ x26_2
         ·rw [if_pos c13] at H
          have c13b0 : decide (0 ≤ x26_2) = true := decide_eq_true c13
          clear c13
          by_cases c14 : x26_2 < (l0.length : Int)
          ·rw [if_pos c14] at H
           have c14b0 : decide (x26_2 < (l0.length : Int)) = true := decide_eq_true c14
           clear c14
           replace H := Option.bind_eq_some_iff.mp H
           obtain ⟨⟨t313, t314, t315⟩, A150, H⟩ := H
           replace H : ((impl_in.f ((rd_T73 l0 x26_2).f0) 0 9).bind fun t316 => (if ((rd_T73 l0 x26_2).f0) = 0 then ((impl_in.f ((rd_T73 l0 x26_2).f1) (-9999) 9999).bind fun t317 => (if t317 = true then (if ((rd_T73 l0 x26_2).f2) = 0 then (if (((rd_T73 l0 x26_2).f3) = 0) then (if x5_2.length < 17592186044416 then (impl_kindsOf.l0 k2 a1 (x5_2 ++ [t315]) l0 (l0.length : Int) (wrap64 (x26_2 + 1))) else (none)) else (some ([] : List Int))) else (some ([] : List Int))) else (some ([] : List Int)))) else (if ((rd_T73 l0 x26_2).f0) = 1 then ((impl_in.f ((rd_T73 l0 x26_2).f1) 0 (wrap64 (a1 - 1))).bind fun t321 => (if t321 = true then (if ((rd_T73 l0 x26_2).f2) = 0 then (if (((rd_T73 l0 x26_2).f3) = 0) then (if x5_2.length < 17592186044416 then (impl_kindsOf.l0 k2 a1 (x5_2 ++ [t315]) l0 (l0.length : Int) (wrap64 (x26_2 + 1))) else (none)) else (some ([] : List Int))) else (some ([] : List Int))) else (some ([] : List Int)))) else (if t316 = true then (if ((rd_T73 l0 x26_2).f1) = 0 then ((impl_in.f ((rd_T73 l0 x26_2).f2) 0 (wrap64 (x26_2 - 1))).bind fun t325 => (if t325 = true then ((impl_in.f ((rd_T73 l0 x26_2).f3) 0 (wrap64 (x26_2 - 1))).bind fun t326 => (if t326 = true then (if 0 ≤ ((rd_T73 l0 x26_2).f2) then (if ((rd_T73 l0 x26_2).f2) < (x5_2.length : Int) then (if (rd x5_2 ((rd_T73 l0 x26_2).f2)) = t314 then (if 0 ≤ ((rd_T73 l0 x26_2).f3) then (if ((rd_T73 l0 x26_2).f3) < (x5_2.length : Int) then (if (rd x5_2 ((rd_T73 l0 x26_2).f3)) = t314 then (if t313 = 2 then (if x5_2.length < 17592186044416 then (impl_kindsOf.l0 k2 a1 (x5_2 ++ [t315]) l0 (l0.length : Int) (wrap64 (x26_2 + 1))) else (none)) else (if (((rd_T73 l0 x26_2).f2) = ((rd_T73 l0 x26_2).f3)) then (if x5_2.length < 17592186044416 then (impl_kindsOf.l0 k2 a1 (x5_2 ++ [t315]) l0 (l0.length : Int) (wrap64 (x26_2 + 1))) else (none)) else (some ([] : List Int)))) else (some ([] : List Int))) else (none)) else (none)) else (some ([] : List Int))) else (none)) else (none)) else (some ([] : List Int)))) else (some ([] : List Int)))) else (some ([] : List Int))) else (some ([] : List Int)))))) = some r := H
           have A15 := Aside0.mk A150
           clear A150
           replace H := Option.bind_eq_some_iff.mp H
           obtain ⟨t316, A160, H⟩ := H
           replace H : (if ((rd_T73 l0 x26_2).f0) = 0 then ((impl_in.f ((rd_T73 l0 x26_2).f1) (-9999) 9999).bind fun t317 => (if t317 = true then (if ((rd_T73 l0 x26_2).f2) = 0 then (if (((rd_T73 l0 x26_2).f3) = 0) then (if x5_2.length < 17592186044416 then (impl_kindsOf.l0 k2 a1 (x5_2 ++ [t315]) l0 (l0.length : Int) (wrap64 (x26_2 + 1))) else (none)) else (some ([] : List Int))) else (some ([] : List Int))) else (some ([] : List Int)))) else (if ((rd_T73 l0 x26_2).f0) = 1 then ((impl_in.f ((rd_T73 l0 x26_2).f1) 0 (wrap64 (a1 - 1))).bind fun t321 => (if t321 = true then (if ((rd_T73 l0 x26_2).f2) = 0 then (if (((rd_T73 l0 x26_2).f3) = 0) then (if x5_2.length < 17592186044416 then (impl_kindsOf.l0 k2 a1 (x5_2 ++ [t315]) l0 (l0.length : Int) (wrap64 (x26_2 + 1))) else (none)) else (some ([] : List Int))) else (some ([] : List Int))) else (some ([] : List Int)))) else (if t316 = true then (if ((rd_T73 l0 x26_2).f1) = 0 then ((impl_in.f ((rd_T73 l0 x26_2).f2) 0 (wrap64 (x26_2 - 1))).bind fun t325 => (if t325 = true then ((impl_in.f ((rd_T73 l0 x26_2).f3) 0 (wrap64 (x26_2 - 1))).bind fun t326 => (if t326 = true then (if 0 ≤ ((rd_T73 l0 x26_2).f2) then (if ((rd_T73 l0 x26_2).f2) < (x5_2.length : Int) then (if (rd x5_2 ((rd_T73 l0 x26_2).f2)) = t314 then (if 0 ≤ ((rd_T73 l0 x26_2).f3) then (if ((rd_T73 l0 x26_2).f3) < (x5_2.length : Int) then (if (rd x5_2 ((rd_T73 l0 x26_2).f3)) = t314 then (if t313 = 2 then (if x5_2.length < 17592186044416 then (impl_kindsOf.l0 k2 a1 (x5_2 ++ [t315]) l0 (l0.length : Int) (wrap64 (x26_2 + 1))) else (none)) else (if (((rd_T73 l0 x26_2).f2) = ((rd_T73 l0 x26_2).f3)) then (if x5_2.length < 17592186044416 then (impl_kindsOf.l0 k2 a1 (x5_2 ++ [t315]) l0 (l0.length : Int) (wrap64 (x26_2 + 1))) else (none)) else (some ([] : List Int)))) else (some ([] : List Int))) else (none)) else (none)) else (some ([] : List Int))) else (none)) else (none)) else (some ([] : List Int)))) else (some ([] : List Int)))) else (some ([] : List Int))) else (some ([] : List Int))))) = some r := H
           have A16 := Aside0.mk A160
           clear A160
           by_cases c17 : ((rd_T73 l0 x26_2).f0) = 0
           ·rw [if_pos c17] at H
            have c17b0 : (((rd_T73 l0 x26_2).f0) == 0) = true := beq_iff_eq.mpr c17
            have c17b1 : (((rd_T73 l0 x26_2).f0) != 0) = false := bne_eq_false_iff_eq.mpr c17
            clear c17
            replace H := Option.bind_eq_some_iff.mp H
            obtain ⟨t317, A180, H⟩ := H
            replace H : (if t317 = true then (if ((rd_T73 l0 x26_2).f2) = 0 then (if (((rd_T73 l0 x26_2).f3) = 0) then (if x5_2.length < 17592186044416 then (impl_kindsOf.l0 k2 a1 (x5_2 ++ [t315]) l0 (l0.length : Int) (wrap64 (x26_2 + 1))) else (none)) else (some ([] : List Int))) else (some ([] : List Int))) else (some ([] : List Int))) = some r := H
            have A18 := Aside0.mk A180
            clear A180
            by_cases c19 : t317 = true
            ·subst c19
             have H1 : (if ((rd_T73 l0 x26_2).f2) = 0 then (if (((rd_T73 l0 x26_2).f3) = 0) then (if x5_2.length < 17592186044416 then (impl_kindsOf.l0 k2 a1 (x5_2 ++ [t315]) l0 (l0.length : Int) (wrap64 (x26_2 + 1))) else (none)) else (some ([] : List Int))) else (some ([] : List Int))) = some r := by rw [if_pos rfl] at H; exact H
             clear H
             have H := H1
             clear H1
             by_cases c20 : ((rd_T73 l0 x26_2).f2) = 0
             ·rw [if_pos c20] at H
              have c20b0 : (((rd_T73 l0 x26_2).f2) == 0) = true := beq_iff_eq.mpr c20
              have c20b1 : (((rd_T73 l0 x26_2).f2) != 0) = false := bne_eq_false_iff_eq.mpr c20
              clear c20
              by_cases c21 : (((rd_T73 l0 x26_2).f3) = 0)
              ·rw [if_pos c21] at H
               have c21b0 : (((rd_T73 l0 x26_2).f3) == 0) = true := beq_iff_eq.mpr c21
               have c21b1 : (((rd_T73 l0 x26_2).f3) != 0) = false := bne_eq_false_iff_eq.mpr c21
               clear c21
               by_cases c22 : x5_2.length < 17592186044416
               ·rw [if_pos c22] at H
                have LMc22 := Aside0.mk c22
                clear c22
                obtain ⟨y318, hy318⟩ : ∃ y_ : List Int, y_ = (x5_2 ++ [t315]) := ⟨_, rfl⟩
                replace H : (impl_kindsOf.l0 k2 a1 y318 l0 (l0.length : Int) (wrap64 (x26_2 + 1))) = some r := by first | (rw [hy318]; with_reducible exact H) | (have H2_ := (Option.bind_some _ _).symm.trans H; rw [hy318]; with_reducible exact H2_) | (have H2_ := (Option.bind_some _ _).symm.trans H; with_reducible exact H2_) | with_reducible exact H | (rw [hy318]; exact H) | exact H
                have Ny318 := Aside0.mk hy318
                clear hy318
                have H' := Aside0.mk H
                clear H
                have p311 : 0 ≤ (x26_2 : Int) := of_decide_eq_true (by first | (with_reducible assumption) | assumption)
                have q311 : x26_2 < (l0.length : Int) := of_decide_eq_true (by first | (with_reducible assumption) | assumption)
                obtain ⟨ad311, e311, hx311_0, hx311_1, hx311_2, hx311_3⟩ := at_T73 HR0.out x26_2 p311 q311
                cases e311
                try replace hx311_0 := (HB.out.cell (World.block_lt_of_cell? w _ hx311_0)).trans hx311_0
                try replace hx311_1 := (HB.out.cell (World.block_lt_of_cell? w _ hx311_1)).trans hx311_1
                try replace hx311_2 := (HB.out.cell (World.block_lt_of_cell? w _ hx311_2)).trans hx311_2
                try replace hx311_3 := (HB.out.cell (World.block_lt_of_cell? w _ hx311_3)).trans hx311_3
                replace p311 := eq_true p311
                replace q311 := eq_true q311
                go_wp2_with (first | ((with_reducible refine gate_dst (N := 7) rfl ?_); (try (refine gate_guard (by rfl) ?_; dsimp only)); refine box_event ?hg (N := 7) ?hd (cs := #[.int .i64 0, .int .i64 0, .int .i64 0, .int .i64 0]) (t := 73) ?hr ?_; (case hd => rfl); (case hg => rfl); (case hr => first | (go_simp; done) | (go_simp; rfl)); intro gb312 hg w23 hbox hb; have n0_ := Aside0.mk (Kd.R_below (by (with_reducible repeat (first | apply Kd.R_alloc | apply Kd.R_drewN | apply Kd.R_drew)); exact HO_5.out) hb); have n1_ := Aside0.mk (below_step (by repeat (first | (with_reducible first | exact HB.out | apply bwA | apply bwN | apply bwD) | exact HB.out)) hb); have n2_ := Aside0.mk (hbox); have n3_ := Aside0.mk ((by rw [hg]; exact (below_size (by repeat (first | (with_reducible first | exact HB.out | apply bwA | apply bwN | apply bwD) | exact HB.out))) : w.heap.size ≤ gb312)); have n4_ := Aside0.mk ((by rw [hg]; exact (below_size (by repeat (first | (with_reducible first | exact HB.out | apply bwA | apply bwN | apply bwD) | exact HB.out))) : w.heap.size ≤ gb312)); clear HO_5; clear HB; have HO_5 := n0_; have HB := n1_; have BK312 := n2_; have GW312 := n3_; have GE312 := n4_; clear n0_ n1_ n2_ n3_ n4_; clear hb hbox hg; have hcz24_0 : w23.cell? ⟨gb312, 0, none⟩ = some (.int .i64 0) := (blk_cell BK312.out 0).trans rfl; have hcz24_1 : w23.cell? ⟨gb312, 1, none⟩ = some (.int .i64 0) := (blk_cell BK312.out 1).trans rfl; have hcz24_2 : w23.cell? ⟨gb312, 2, none⟩ = some (.int .i64 0) := (blk_cell BK312.out 2).trans rfl; have hcz24_3 : w23.cell? ⟨gb312, 3, none⟩ = some (.int .i64 0) := (blk_cell BK312.out 3).trans rfl; have hfz24_0 := blk_frozen BK312.out 0; have hfz24_1 := blk_frozen BK312.out 1; have hfz24_2 := blk_frozen BK312.out 2; have hfz24_3 := blk_frozen BK312.out 3) | ((with_reducible refine gate_callee (f := 105) rfl ?_); refine goesL_ (some 34) rfl rfl Try.func105 (by kernel_rfl) rfl #[.int .i64 ((rd_T73 l0 x26_2).f0)] rfl (by (try simp only [List.map_toArray, List.map_cons, List.map_nil]); first | done | rfl | (simp only [List.length_drop, List.length_take]; rfl)) ?_; (with_reducible refine (impl_parts.calls k2 ((rd_T73 l0 x26_2).f0) t313 t314 t315 _ A15.out).mono ?_); rintro e w' ⟨rfl, ⟨nd, rfl⟩⟩; refine ⟨_, rfl, ?_⟩) | ((with_reducible refine gate_callee (f := 62) rfl ?_); refine goesL_ (some 40) rfl rfl Try.func62 (by kernel_rfl) rfl #[.int .i64 ((rd_T73 l0 x26_2).f0), .int .i64 0, .int .i64 9] rfl (by (try simp only [List.map_toArray, List.map_cons, List.map_nil]); first | done | rfl | (simp only [List.length_drop, List.length_take]; rfl)) ?_; (with_reducible refine (impl_in.calls ((rd_T73 l0 x26_2).f0) 0 9 t316 _ A16.out).mono ?_); rintro e w' ⟨rfl, ⟨nd, rfl⟩⟩; refine ⟨_, rfl, ?_⟩) | ((with_reducible refine gate_callee (f := 62) rfl ?_); refine goesL_ (some 47) rfl rfl Try.func62 (by kernel_rfl) rfl #[.int .i64 ((rd_T73 l0 x26_2).f1), .int .i64 (-9999), .int .i64 9999] rfl (by (try simp only [List.map_toArray, List.map_cons, List.map_nil]); first | done | rfl | (simp only [List.length_drop, List.length_take]; rfl)) ?_; (with_reducible refine (impl_in.calls ((rd_T73 l0 x26_2).f1) (-9999) 9999 true _ A18.out).mono ?_); rintro e w' ⟨rfl, ⟨nd, rfl⟩⟩; refine ⟨_, rfl, ?_⟩) | ((with_reducible refine gate_builtin (b := .append) (xs := #[.tmp 127, .tmp 129]) rfl ?_); (try (refine gate_guard (by rfl) ?_; dsimp only)); at_builtin; refine Kd.R_append (Kd.int .i64) (w0 := w) w.heap.size rfl (.tmp 127) (.tmp 129) 23 3 (.int .i64 0) 8 rfl Try.underlying23 info3 rfl (by decide) (by omega) u5 x5_2 t315 [.int .i64 t315] (fun _ => True) (fun _ => False) rfl (by first | (go_simp; done) | (go_simp; rfl)) ?aP (fun _ hk => hk.elim) ?aF ?aO ?aB ?aS ?aL ?_; (case aP => exact rfl); (case aB => exact (by repeat (first | (with_reducible first | exact HB.out | apply bwA | apply bwN | apply bwD | refine below_set ?_ GE312.out) | exact HB.out))); (case aF => exact (fun _ _ => trivial)); (case aO => exact (by (with_reducible repeat (first | apply Kd.R_alloc | apply Kd.R_drewN | apply Kd.R_drew)); exact Kd.R_mono (Kd.R_far (p := ⟨gb312, 3, none⟩) (Kd.R_far (p := ⟨gb312, 2, none⟩) (Kd.R_far (p := ⟨gb312, 1, none⟩) (Kd.R_far (p := ⟨gb312, 0, none⟩) (Kd.R_types HO_5.out BK312.out (by decide)) (fun _ hk => hk.2) (.int .i64 ((rd_T73 l0 x26_2).f0))) (fun _ hk => hk.2) (.int .i64 ((rd_T73 l0 x26_2).f1))) (fun _ hk => hk.2) (.int .i64 ((rd_T73 l0 x26_2).f2))) (fun _ hk => hk.2) (.int .i64 ((rd_T73 l0 x26_2).f3))) (fun _ hk => trivial))); (case aS => exact (below_size (by repeat (first | (with_reducible first | exact HB.out | apply bwA | apply bwN | apply bwD | refine below_set ?_ GE312.out) | exact HB.out)))); (case aL => have := LMc22.out; omega); intro v319 w25 ho hb hg hat; rw [← Ny318.out] at ho; have n0_ := Aside0.mk (blk_grown (g := gb312) (o := .cells #[.int .i64 ((rd_T73 l0 x26_2).f0), .int .i64 ((rd_T73 l0 x26_2).f1), .int .i64 ((rd_T73 l0 x26_2).f2), .int .i64 ((rd_T73 l0 x26_2).f3)] 73 (0, 0)) (by (with_reducible repeat (first | refine blk_drewN ?_ _ | refine blk_drew ?_ | refine blk_alloc ?_ _)); refine blk_put (cs := #[.int .i64 ((rd_T73 l0 x26_2).f0), .int .i64 ((rd_T73 l0 x26_2).f1), .int .i64 ((rd_T73 l0 x26_2).f2), .int .i64 0]) ?_ 3 _ rfl; (with_reducible repeat (first | refine blk_drewN ?_ _ | refine blk_drew ?_ | refine blk_alloc ?_ _)); refine blk_put (cs := #[.int .i64 ((rd_T73 l0 x26_2).f0), .int .i64 ((rd_T73 l0 x26_2).f1), .int .i64 0, .int .i64 0]) ?_ 2 _ rfl; (with_reducible repeat (first | refine blk_drewN ?_ _ | refine blk_drew ?_ | refine blk_alloc ?_ _)); refine blk_put (cs := #[.int .i64 ((rd_T73 l0 x26_2).f0), .int .i64 0, .int .i64 0, .int .i64 0]) ?_ 1 _ rfl; (with_reducible repeat (first | refine blk_drewN ?_ _ | refine blk_drew ?_ | refine blk_alloc ?_ _)); refine blk_put (cs := #[.int .i64 0, .int .i64 0, .int .i64 0, .int .i64 0]) ?_ 0 _ rfl; (with_reducible repeat (first | refine blk_drewN ?_ _ | refine blk_drew ?_ | refine blk_alloc ?_ _)); exact BK312.out) hg (Kd.R_ne HO_5.out BK312.out (by decide))); have n1_ := Aside0.mk (hb); have n2_ := Aside0.mk (ho); clear BK312; clear HB; clear HO_5; have BK312 := n0_; have HB := n1_; have HO320 := n2_; clear n0_ n1_ n2_; clear ho hb hg hat))
                go_roundg k2
                case measure => have := HJ2.out; have := HK2.out; omega
                case rel => exact ⟨(y318), (wrap64 (x26_2 + 1)), (by first | rfl | (simp; done) | (simp [*]; done)), H', ⟨by have := HJ2.out; have := HK2.out; omega⟩, ⟨by (with_reducible repeat (first | apply Kd.R_alloc | apply Kd.R_drewN | apply Kd.R_drew)); exact HO320.out⟩, ⟨by repeat (first | (with_reducible first | exact HB.out | apply bwA | apply bwN | apply bwD | refine below_set ?_ GE312.out) | exact HB.out)⟩, ⟨by have e1_ := HL_.out; have e2_ : 0 ≤ x26_2 := of_decide_eq_true (by first | (with_reducible assumption) | assumption); rw [Ny318.out, List.length_append, List.length_singleton]; unfold wrap64; omega⟩⟩
               ·rw [if_neg c22] at H
                exact absurd H (by simp)
              ·rw [if_neg c21] at H
               have c21b0 : (((rd_T73 l0 x26_2).f3) == 0) = false := beq_eq_false_iff_ne.mpr c21
               have c21b1 : (((rd_T73 l0 x26_2).f3) != 0) = true := bne_iff_ne.mpr c21
               obtain rfl := Option.some.inj H
               have p311 : 0 ≤ (x26_2 : Int) := of_decide_eq_true (by first | (with_reducible assumption) | assumption)
               have q311 : x26_2 < (l0.length : Int) := of_decide_eq_true (by first | (with_reducible assumption) | assumption)
               obtain ⟨ad311, e311, hx311_0, hx311_1, hx311_2, hx311_3⟩ := at_T73 HR0.out x26_2 p311 q311
               cases e311
               try replace hx311_0 := (HB.out.cell (World.block_lt_of_cell? w _ hx311_0)).trans hx311_0
               try replace hx311_1 := (HB.out.cell (World.block_lt_of_cell? w _ hx311_1)).trans hx311_1
               try replace hx311_2 := (HB.out.cell (World.block_lt_of_cell? w _ hx311_2)).trans hx311_2
               try replace hx311_3 := (HB.out.cell (World.block_lt_of_cell? w _ hx311_3)).trans hx311_3
               replace p311 := eq_true p311
               replace q311 := eq_true q311
               go_wp2_with (first | ((with_reducible refine gate_dst (N := 7) rfl ?_); (try (refine gate_guard (by rfl) ?_; dsimp only)); refine box_event ?hg (N := 7) ?hd (cs := #[.int .i64 0, .int .i64 0, .int .i64 0, .int .i64 0]) (t := 73) ?hr ?_; (case hd => rfl); (case hg => rfl); (case hr => first | (go_simp; done) | (go_simp; rfl)); intro gb312 hg w26 hbox hb; have n0_ := Aside0.mk (Kd.R_below (by (with_reducible repeat (first | apply Kd.R_alloc | apply Kd.R_drewN | apply Kd.R_drew)); exact HO_5.out) hb); have n1_ := Aside0.mk (below_step (by repeat (first | (with_reducible first | exact HB.out | apply bwA | apply bwN | apply bwD) | exact HB.out)) hb); have n2_ := Aside0.mk (hbox); have n3_ := Aside0.mk ((by rw [hg]; exact (below_size (by repeat (first | (with_reducible first | exact HB.out | apply bwA | apply bwN | apply bwD) | exact HB.out))) : w.heap.size ≤ gb312)); have n4_ := Aside0.mk ((by rw [hg]; exact (below_size (by repeat (first | (with_reducible first | exact HB.out | apply bwA | apply bwN | apply bwD) | exact HB.out))) : w.heap.size ≤ gb312)); clear HO_5; clear HB; have HO_5 := n0_; have HB := n1_; have BK312 := n2_; have GW312 := n3_; have GE312 := n4_; clear n0_ n1_ n2_ n3_ n4_; clear hb hbox hg; have hcz27_0 : w26.cell? ⟨gb312, 0, none⟩ = some (.int .i64 0) := (blk_cell BK312.out 0).trans rfl; have hcz27_1 : w26.cell? ⟨gb312, 1, none⟩ = some (.int .i64 0) := (blk_cell BK312.out 1).trans rfl; have hcz27_2 : w26.cell? ⟨gb312, 2, none⟩ = some (.int .i64 0) := (blk_cell BK312.out 2).trans rfl; have hcz27_3 : w26.cell? ⟨gb312, 3, none⟩ = some (.int .i64 0) := (blk_cell BK312.out 3).trans rfl; have hfz27_0 := blk_frozen BK312.out 0; have hfz27_1 := blk_frozen BK312.out 1; have hfz27_2 := blk_frozen BK312.out 2; have hfz27_3 := blk_frozen BK312.out 3) | ((with_reducible refine gate_callee (f := 105) rfl ?_); refine goesL_ (some 34) rfl rfl Try.func105 (by kernel_rfl) rfl #[.int .i64 ((rd_T73 l0 x26_2).f0)] rfl (by (try simp only [List.map_toArray, List.map_cons, List.map_nil]); first | done | rfl | (simp only [List.length_drop, List.length_take]; rfl)) ?_; (with_reducible refine (impl_parts.calls k2 ((rd_T73 l0 x26_2).f0) t313 t314 t315 _ A15.out).mono ?_); rintro e w' ⟨rfl, ⟨nd, rfl⟩⟩; refine ⟨_, rfl, ?_⟩) | ((with_reducible refine gate_callee (f := 62) rfl ?_); refine goesL_ (some 40) rfl rfl Try.func62 (by kernel_rfl) rfl #[.int .i64 ((rd_T73 l0 x26_2).f0), .int .i64 0, .int .i64 9] rfl (by (try simp only [List.map_toArray, List.map_cons, List.map_nil]); first | done | rfl | (simp only [List.length_drop, List.length_take]; rfl)) ?_; (with_reducible refine (impl_in.calls ((rd_T73 l0 x26_2).f0) 0 9 t316 _ A16.out).mono ?_); rintro e w' ⟨rfl, ⟨nd, rfl⟩⟩; refine ⟨_, rfl, ?_⟩) | ((with_reducible refine gate_callee (f := 62) rfl ?_); refine goesL_ (some 47) rfl rfl Try.func62 (by kernel_rfl) rfl #[.int .i64 ((rd_T73 l0 x26_2).f1), .int .i64 (-9999), .int .i64 9999] rfl (by (try simp only [List.map_toArray, List.map_cons, List.map_nil]); first | done | rfl | (simp only [List.length_drop, List.length_take]; rfl)) ?_; (with_reducible refine (impl_in.calls ((rd_T73 l0 x26_2).f1) (-9999) 9999 true _ A18.out).mono ?_); rintro e w' ⟨rfl, ⟨nd, rfl⟩⟩; refine ⟨_, rfl, ?_⟩))
               go_ret
               exact ⟨_, by first | rfl | (simp [errW_none, errW_some] <;> rfl) | (simp [*, errW_none, errW_some] <;> rfl), by first | exact Kd.R_nil _ _ _ _ _ | exact Kd.N_nil _ _ _ _ _ | exact Kd.V_nil _ _ _ _ _ | exact Kd.Q_nil _ _ _ _ _ | exact Kd.S_nil _ _ _ _ _, by repeat (first | (with_reducible first | exact HB.out | apply bwA | apply bwN | apply bwD | refine below_set ?_ GE312.out) | exact HB.out), by (try intro _); rfl⟩
             ·rw [if_neg c20] at H
              have c20b0 : (((rd_T73 l0 x26_2).f2) == 0) = false := beq_eq_false_iff_ne.mpr c20
              have c20b1 : (((rd_T73 l0 x26_2).f2) != 0) = true := bne_iff_ne.mpr c20
              obtain rfl := Option.some.inj H
              have p311 : 0 ≤ (x26_2 : Int) := of_decide_eq_true (by first | (with_reducible assumption) | assumption)
              have q311 : x26_2 < (l0.length : Int) := of_decide_eq_true (by first | (with_reducible assumption) | assumption)
              obtain ⟨ad311, e311, hx311_0, hx311_1, hx311_2, hx311_3⟩ := at_T73 HR0.out x26_2 p311 q311
              cases e311
              try replace hx311_0 := (HB.out.cell (World.block_lt_of_cell? w _ hx311_0)).trans hx311_0
              try replace hx311_1 := (HB.out.cell (World.block_lt_of_cell? w _ hx311_1)).trans hx311_1
              try replace hx311_2 := (HB.out.cell (World.block_lt_of_cell? w _ hx311_2)).trans hx311_2
              try replace hx311_3 := (HB.out.cell (World.block_lt_of_cell? w _ hx311_3)).trans hx311_3
              replace p311 := eq_true p311
              replace q311 := eq_true q311
              go_wp2_with (first | ((with_reducible refine gate_dst (N := 7) rfl ?_); (try (refine gate_guard (by rfl) ?_; dsimp only)); refine box_event ?hg (N := 7) ?hd (cs := #[.int .i64 0, .int .i64 0, .int .i64 0, .int .i64 0]) (t := 73) ?hr ?_; (case hd => rfl); (case hg => rfl); (case hr => first | (go_simp; done) | (go_simp; rfl)); intro gb312 hg w28 hbox hb; have n0_ := Aside0.mk (Kd.R_below (by (with_reducible repeat (first | apply Kd.R_alloc | apply Kd.R_drewN | apply Kd.R_drew)); exact HO_5.out) hb); have n1_ := Aside0.mk (below_step (by repeat (first | (with_reducible first | exact HB.out | apply bwA | apply bwN | apply bwD) | exact HB.out)) hb); have n2_ := Aside0.mk (hbox); have n3_ := Aside0.mk ((by rw [hg]; exact (below_size (by repeat (first | (with_reducible first | exact HB.out | apply bwA | apply bwN | apply bwD) | exact HB.out))) : w.heap.size ≤ gb312)); have n4_ := Aside0.mk ((by rw [hg]; exact (below_size (by repeat (first | (with_reducible first | exact HB.out | apply bwA | apply bwN | apply bwD) | exact HB.out))) : w.heap.size ≤ gb312)); clear HO_5; clear HB; have HO_5 := n0_; have HB := n1_; have BK312 := n2_; have GW312 := n3_; have GE312 := n4_; clear n0_ n1_ n2_ n3_ n4_; clear hb hbox hg; have hcz29_0 : w28.cell? ⟨gb312, 0, none⟩ = some (.int .i64 0) := (blk_cell BK312.out 0).trans rfl; have hcz29_1 : w28.cell? ⟨gb312, 1, none⟩ = some (.int .i64 0) := (blk_cell BK312.out 1).trans rfl; have hcz29_2 : w28.cell? ⟨gb312, 2, none⟩ = some (.int .i64 0) := (blk_cell BK312.out 2).trans rfl; have hcz29_3 : w28.cell? ⟨gb312, 3, none⟩ = some (.int .i64 0) := (blk_cell BK312.out 3).trans rfl; have hfz29_0 := blk_frozen BK312.out 0; have hfz29_1 := blk_frozen BK312.out 1; have hfz29_2 := blk_frozen BK312.out 2; have hfz29_3 := blk_frozen BK312.out 3) | ((with_reducible refine gate_callee (f := 105) rfl ?_); refine goesL_ (some 34) rfl rfl Try.func105 (by kernel_rfl) rfl #[.int .i64 ((rd_T73 l0 x26_2).f0)] rfl (by (try simp only [List.map_toArray, List.map_cons, List.map_nil]); first | done | rfl | (simp only [List.length_drop, List.length_take]; rfl)) ?_; (with_reducible refine (impl_parts.calls k2 ((rd_T73 l0 x26_2).f0) t313 t314 t315 _ A15.out).mono ?_); rintro e w' ⟨rfl, ⟨nd, rfl⟩⟩; refine ⟨_, rfl, ?_⟩) | ((with_reducible refine gate_callee (f := 62) rfl ?_); refine goesL_ (some 40) rfl rfl Try.func62 (by kernel_rfl) rfl #[.int .i64 ((rd_T73 l0 x26_2).f0), .int .i64 0, .int .i64 9] rfl (by (try simp only [List.map_toArray, List.map_cons, List.map_nil]); first | done | rfl | (simp only [List.length_drop, List.length_take]; rfl)) ?_; (with_reducible refine (impl_in.calls ((rd_T73 l0 x26_2).f0) 0 9 t316 _ A16.out).mono ?_); rintro e w' ⟨rfl, ⟨nd, rfl⟩⟩; refine ⟨_, rfl, ?_⟩) | ((with_reducible refine gate_callee (f := 62) rfl ?_); refine goesL_ (some 47) rfl rfl Try.func62 (by kernel_rfl) rfl #[.int .i64 ((rd_T73 l0 x26_2).f1), .int .i64 (-9999), .int .i64 9999] rfl (by (try simp only [List.map_toArray, List.map_cons, List.map_nil]); first | done | rfl | (simp only [List.length_drop, List.length_take]; rfl)) ?_; (with_reducible refine (impl_in.calls ((rd_T73 l0 x26_2).f1) (-9999) 9999 true _ A18.out).mono ?_); rintro e w' ⟨rfl, ⟨nd, rfl⟩⟩; refine ⟨_, rfl, ?_⟩))
              go_ret
              exact ⟨_, by first | rfl | (simp [errW_none, errW_some] <;> rfl) | (simp [*, errW_none, errW_some] <;> rfl), by first | exact Kd.R_nil _ _ _ _ _ | exact Kd.N_nil _ _ _ _ _ | exact Kd.V_nil _ _ _ _ _ | exact Kd.Q_nil _ _ _ _ _ | exact Kd.S_nil _ _ _ _ _, by repeat (first | (with_reducible first | exact HB.out | apply bwA | apply bwN | apply bwD | refine below_set ?_ GE312.out) | exact HB.out), by (try intro _); rfl⟩
            ·replace c19 := Bool.eq_false_iff.mpr c19
             subst c19
             have H1 : (some ([] : List Int)) = some r := by rw [if_neg (show ¬ (false = true) by decide)] at H; exact H
             clear H
             have H := H1
             clear H1
             obtain rfl := Option.some.inj H
             have p311 : 0 ≤ (x26_2 : Int) := of_decide_eq_true (by first | (with_reducible assumption) | assumption)
             have q311 : x26_2 < (l0.length : Int) := of_decide_eq_true (by first | (with_reducible assumption) | assumption)
             obtain ⟨ad311, e311, hx311_0, hx311_1, hx311_2, hx311_3⟩ := at_T73 HR0.out x26_2 p311 q311
             cases e311
             try replace hx311_0 := (HB.out.cell (World.block_lt_of_cell? w _ hx311_0)).trans hx311_0
             try replace hx311_1 := (HB.out.cell (World.block_lt_of_cell? w _ hx311_1)).trans hx311_1
             try replace hx311_2 := (HB.out.cell (World.block_lt_of_cell? w _ hx311_2)).trans hx311_2
             try replace hx311_3 := (HB.out.cell (World.block_lt_of_cell? w _ hx311_3)).trans hx311_3
             replace p311 := eq_true p311
             replace q311 := eq_true q311
             go_wp2_with (first | ((with_reducible refine gate_dst (N := 7) rfl ?_); (try (refine gate_guard (by rfl) ?_; dsimp only)); refine box_event ?hg (N := 7) ?hd (cs := #[.int .i64 0, .int .i64 0, .int .i64 0, .int .i64 0]) (t := 73) ?hr ?_; (case hd => rfl); (case hg => rfl); (case hr => first | (go_simp; done) | (go_simp; rfl)); intro gb312 hg w30 hbox hb; have n0_ := Aside0.mk (Kd.R_below (by (with_reducible repeat (first | apply Kd.R_alloc | apply Kd.R_drewN | apply Kd.R_drew)); exact HO_5.out) hb); have n1_ := Aside0.mk (below_step (by repeat (first | (with_reducible first | exact HB.out | apply bwA | apply bwN | apply bwD) | exact HB.out)) hb); have n2_ := Aside0.mk (hbox); have n3_ := Aside0.mk ((by rw [hg]; exact (below_size (by repeat (first | (with_reducible first | exact HB.out | apply bwA | apply bwN | apply bwD) | exact HB.out))) : w.heap.size ≤ gb312)); have n4_ := Aside0.mk ((by rw [hg]; exact (below_size (by repeat (first | (with_reducible first | exact HB.out | apply bwA | apply bwN | apply bwD) | exact HB.out))) : w.heap.size ≤ gb312)); clear HO_5; clear HB; have HO_5 := n0_; have HB := n1_; have BK312 := n2_; have GW312 := n3_; have GE312 := n4_; clear n0_ n1_ n2_ n3_ n4_; clear hb hbox hg; have hcz31_0 : w30.cell? ⟨gb312, 0, none⟩ = some (.int .i64 0) := (blk_cell BK312.out 0).trans rfl; have hcz31_1 : w30.cell? ⟨gb312, 1, none⟩ = some (.int .i64 0) := (blk_cell BK312.out 1).trans rfl; have hcz31_2 : w30.cell? ⟨gb312, 2, none⟩ = some (.int .i64 0) := (blk_cell BK312.out 2).trans rfl; have hcz31_3 : w30.cell? ⟨gb312, 3, none⟩ = some (.int .i64 0) := (blk_cell BK312.out 3).trans rfl; have hfz31_0 := blk_frozen BK312.out 0; have hfz31_1 := blk_frozen BK312.out 1; have hfz31_2 := blk_frozen BK312.out 2; have hfz31_3 := blk_frozen BK312.out 3) | ((with_reducible refine gate_callee (f := 105) rfl ?_); refine goesL_ (some 34) rfl rfl Try.func105 (by kernel_rfl) rfl #[.int .i64 ((rd_T73 l0 x26_2).f0)] rfl (by (try simp only [List.map_toArray, List.map_cons, List.map_nil]); first | done | rfl | (simp only [List.length_drop, List.length_take]; rfl)) ?_; (with_reducible refine (impl_parts.calls k2 ((rd_T73 l0 x26_2).f0) t313 t314 t315 _ A15.out).mono ?_); rintro e w' ⟨rfl, ⟨nd, rfl⟩⟩; refine ⟨_, rfl, ?_⟩) | ((with_reducible refine gate_callee (f := 62) rfl ?_); refine goesL_ (some 40) rfl rfl Try.func62 (by kernel_rfl) rfl #[.int .i64 ((rd_T73 l0 x26_2).f0), .int .i64 0, .int .i64 9] rfl (by (try simp only [List.map_toArray, List.map_cons, List.map_nil]); first | done | rfl | (simp only [List.length_drop, List.length_take]; rfl)) ?_; (with_reducible refine (impl_in.calls ((rd_T73 l0 x26_2).f0) 0 9 t316 _ A16.out).mono ?_); rintro e w' ⟨rfl, ⟨nd, rfl⟩⟩; refine ⟨_, rfl, ?_⟩) | ((with_reducible refine gate_callee (f := 62) rfl ?_); refine goesL_ (some 47) rfl rfl Try.func62 (by kernel_rfl) rfl #[.int .i64 ((rd_T73 l0 x26_2).f1), .int .i64 (-9999), .int .i64 9999] rfl (by (try simp only [List.map_toArray, List.map_cons, List.map_nil]); first | done | rfl | (simp only [List.length_drop, List.length_take]; rfl)) ?_; (with_reducible refine (impl_in.calls ((rd_T73 l0 x26_2).f1) (-9999) 9999 false _ A18.out).mono ?_); rintro e w' ⟨rfl, ⟨nd, rfl⟩⟩; refine ⟨_, rfl, ?_⟩))
             go_ret
             exact ⟨_, by first | rfl | (simp [errW_none, errW_some] <;> rfl) | (simp [*, errW_none, errW_some] <;> rfl), by first | exact Kd.R_nil _ _ _ _ _ | exact Kd.N_nil _ _ _ _ _ | exact Kd.V_nil _ _ _ _ _ | exact Kd.Q_nil _ _ _ _ _ | exact Kd.S_nil _ _ _ _ _, by repeat (first | (with_reducible first | exact HB.out | apply bwA | apply bwN | apply bwD | refine below_set ?_ GE312.out) | exact HB.out), by (try intro _); rfl⟩
           ·rw [if_neg c17] at H
            have c17b0 : (((rd_T73 l0 x26_2).f0) == 0) = false := beq_eq_false_iff_ne.mpr c17
            have c17b1 : (((rd_T73 l0 x26_2).f0) != 0) = true := bne_iff_ne.mpr c17
            by_cases c32 : ((rd_T73 l0 x26_2).f0) = 1
            ·rw [if_pos c32] at H
             have c32b0 : (((rd_T73 l0 x26_2).f0) == 1) = true := beq_iff_eq.mpr c32
             have c32b1 : (((rd_T73 l0 x26_2).f0) != 1) = false := bne_eq_false_iff_eq.mpr c32
             clear c32
             replace H := Option.bind_eq_some_iff.mp H
             obtain ⟨t321, A330, H⟩ := H
             replace H : (if t321 = true then (if ((rd_T73 l0 x26_2).f2) = 0 then (if (((rd_T73 l0 x26_2).f3) = 0) then (if x5_2.length < 17592186044416 then (impl_kindsOf.l0 k2 a1 (x5_2 ++ [t315]) l0 (l0.length : Int) (wrap64 (x26_2 + 1))) else (none)) else (some ([] : List Int))) else (some ([] : List Int))) else (some ([] : List Int))) = some r := H
             have A33 := Aside0.mk A330
             clear A330
             by_cases c34 : t321 = true
             ·subst c34
              have H1 : (if ((rd_T73 l0 x26_2).f2) = 0 then (if (((rd_T73 l0 x26_2).f3) = 0) then (if x5_2.length < 17592186044416 then (impl_kindsOf.l0 k2 a1 (x5_2 ++ [t315]) l0 (l0.length : Int) (wrap64 (x26_2 + 1))) else (none)) else (some ([] : List Int))) else (some ([] : List Int))) = some r := by rw [if_pos rfl] at H; exact H
              clear H
              have H := H1
              clear H1
              by_cases c35 : ((rd_T73 l0 x26_2).f2) = 0
              ·rw [if_pos c35] at H
               have c35b0 : (((rd_T73 l0 x26_2).f2) == 0) = true := beq_iff_eq.mpr c35
               have c35b1 : (((rd_T73 l0 x26_2).f2) != 0) = false := bne_eq_false_iff_eq.mpr c35
               clear c35
               by_cases c36 : (((rd_T73 l0 x26_2).f3) = 0)
               ·rw [if_pos c36] at H
                have c36b0 : (((rd_T73 l0 x26_2).f3) == 0) = true := beq_iff_eq.mpr c36
                have c36b1 : (((rd_T73 l0 x26_2).f3) != 0) = false := bne_eq_false_iff_eq.mpr c36
                clear c36
                by_cases c37 : x5_2.length < 17592186044416
                ·rw [if_pos c37] at H
                 have LMc37 := Aside0.mk c37
                 clear c37
                 obtain ⟨y322, hy322⟩ : ∃ y_ : List Int, y_ = (x5_2 ++ [t315]) := ⟨_, rfl⟩
                 replace H : (impl_kindsOf.l0 k2 a1 y322 l0 (l0.length : Int) (wrap64 (x26_2 + 1))) = some r := by first | (rw [hy322]; with_reducible exact H) | (have H2_ := (Option.bind_some _ _).symm.trans H; rw [hy322]; with_reducible exact H2_) | (have H2_ := (Option.bind_some _ _).symm.trans H; with_reducible exact H2_) | with_reducible exact H | (rw [hy322]; exact H) | exact H
                 have Ny322 := Aside0.mk hy322
                 clear hy322
                 have H' := Aside0.mk H
                 clear H
                 have p311 : 0 ≤ (x26_2 : Int) := of_decide_eq_true (by first | (with_reducible assumption) | assumption)
                 have q311 : x26_2 < (l0.length : Int) := of_decide_eq_true (by first | (with_reducible assumption) | assumption)
                 obtain ⟨ad311, e311, hx311_0, hx311_1, hx311_2, hx311_3⟩ := at_T73 HR0.out x26_2 p311 q311
                 cases e311
                 try replace hx311_0 := (HB.out.cell (World.block_lt_of_cell? w _ hx311_0)).trans hx311_0
                 try replace hx311_1 := (HB.out.cell (World.block_lt_of_cell? w _ hx311_1)).trans hx311_1
                 try replace hx311_2 := (HB.out.cell (World.block_lt_of_cell? w _ hx311_2)).trans hx311_2
                 try replace hx311_3 := (HB.out.cell (World.block_lt_of_cell? w _ hx311_3)).trans hx311_3
                 replace p311 := eq_true p311
                 replace q311 := eq_true q311
                 go_wp2_with (first | ((with_reducible refine gate_dst (N := 7) rfl ?_); (try (refine gate_guard (by rfl) ?_; dsimp only)); refine box_event ?hg (N := 7) ?hd (cs := #[.int .i64 0, .int .i64 0, .int .i64 0, .int .i64 0]) (t := 73) ?hr ?_; (case hd => rfl); (case hg => rfl); (case hr => first | (go_simp; done) | (go_simp; rfl)); intro gb312 hg w38 hbox hb; have n0_ := Aside0.mk (Kd.R_below (by (with_reducible repeat (first | apply Kd.R_alloc | apply Kd.R_drewN | apply Kd.R_drew)); exact HO_5.out) hb); have n1_ := Aside0.mk (below_step (by repeat (first | (with_reducible first | exact HB.out | apply bwA | apply bwN | apply bwD) | exact HB.out)) hb); have n2_ := Aside0.mk (hbox); have n3_ := Aside0.mk ((by rw [hg]; exact (below_size (by repeat (first | (with_reducible first | exact HB.out | apply bwA | apply bwN | apply bwD) | exact HB.out))) : w.heap.size ≤ gb312)); have n4_ := Aside0.mk ((by rw [hg]; exact (below_size (by repeat (first | (with_reducible first | exact HB.out | apply bwA | apply bwN | apply bwD) | exact HB.out))) : w.heap.size ≤ gb312)); clear HO_5; clear HB; have HO_5 := n0_; have HB := n1_; have BK312 := n2_; have GW312 := n3_; have GE312 := n4_; clear n0_ n1_ n2_ n3_ n4_; clear hb hbox hg; have hcz39_0 : w38.cell? ⟨gb312, 0, none⟩ = some (.int .i64 0) := (blk_cell BK312.out 0).trans rfl; have hcz39_1 : w38.cell? ⟨gb312, 1, none⟩ = some (.int .i64 0) := (blk_cell BK312.out 1).trans rfl; have hcz39_2 : w38.cell? ⟨gb312, 2, none⟩ = some (.int .i64 0) := (blk_cell BK312.out 2).trans rfl; have hcz39_3 : w38.cell? ⟨gb312, 3, none⟩ = some (.int .i64 0) := (blk_cell BK312.out 3).trans rfl; have hfz39_0 := blk_frozen BK312.out 0; have hfz39_1 := blk_frozen BK312.out 1; have hfz39_2 := blk_frozen BK312.out 2; have hfz39_3 := blk_frozen BK312.out 3) | ((with_reducible refine gate_callee (f := 105) rfl ?_); refine goesL_ (some 34) rfl rfl Try.func105 (by kernel_rfl) rfl #[.int .i64 ((rd_T73 l0 x26_2).f0)] rfl (by (try simp only [List.map_toArray, List.map_cons, List.map_nil]); first | done | rfl | (simp only [List.length_drop, List.length_take]; rfl)) ?_; (with_reducible refine (impl_parts.calls k2 ((rd_T73 l0 x26_2).f0) t313 t314 t315 _ A15.out).mono ?_); rintro e w' ⟨rfl, ⟨nd, rfl⟩⟩; refine ⟨_, rfl, ?_⟩) | ((with_reducible refine gate_callee (f := 62) rfl ?_); refine goesL_ (some 40) rfl rfl Try.func62 (by kernel_rfl) rfl #[.int .i64 ((rd_T73 l0 x26_2).f0), .int .i64 0, .int .i64 9] rfl (by (try simp only [List.map_toArray, List.map_cons, List.map_nil]); first | done | rfl | (simp only [List.length_drop, List.length_take]; rfl)) ?_; (with_reducible refine (impl_in.calls ((rd_T73 l0 x26_2).f0) 0 9 t316 _ A16.out).mono ?_); rintro e w' ⟨rfl, ⟨nd, rfl⟩⟩; refine ⟨_, rfl, ?_⟩) | ((with_reducible refine gate_callee (f := 62) rfl ?_); refine goesL_ (some 66) rfl rfl Try.func62 (by kernel_rfl) rfl #[.int .i64 ((rd_T73 l0 x26_2).f1), .int .i64 0, .int .i64 (wrap64 (a1 - 1))] rfl (by (try simp only [List.map_toArray, List.map_cons, List.map_nil]); first | done | rfl | (simp only [List.length_drop, List.length_take]; rfl)) ?_; (with_reducible refine (impl_in.calls ((rd_T73 l0 x26_2).f1) 0 (wrap64 (a1 - 1)) true _ A33.out).mono ?_); rintro e w' ⟨rfl, ⟨nd, rfl⟩⟩; refine ⟨_, rfl, ?_⟩) | ((with_reducible refine gate_builtin (b := .append) (xs := #[.tmp 127, .tmp 129]) rfl ?_); (try (refine gate_guard (by rfl) ?_; dsimp only)); at_builtin; refine Kd.R_append (Kd.int .i64) (w0 := w) w.heap.size rfl (.tmp 127) (.tmp 129) 23 3 (.int .i64 0) 8 rfl Try.underlying23 info3 rfl (by decide) (by omega) u5 x5_2 t315 [.int .i64 t315] (fun _ => True) (fun _ => False) rfl (by first | (go_simp; done) | (go_simp; rfl)) ?aP (fun _ hk => hk.elim) ?aF ?aO ?aB ?aS ?aL ?_; (case aP => exact rfl); (case aB => exact (by repeat (first | (with_reducible first | exact HB.out | apply bwA | apply bwN | apply bwD | refine below_set ?_ GE312.out) | exact HB.out))); (case aF => exact (fun _ _ => trivial)); (case aO => exact (by (with_reducible repeat (first | apply Kd.R_alloc | apply Kd.R_drewN | apply Kd.R_drew)); exact Kd.R_mono (Kd.R_far (p := ⟨gb312, 3, none⟩) (Kd.R_far (p := ⟨gb312, 2, none⟩) (Kd.R_far (p := ⟨gb312, 1, none⟩) (Kd.R_far (p := ⟨gb312, 0, none⟩) (Kd.R_types HO_5.out BK312.out (by decide)) (fun _ hk => hk.2) (.int .i64 ((rd_T73 l0 x26_2).f0))) (fun _ hk => hk.2) (.int .i64 ((rd_T73 l0 x26_2).f1))) (fun _ hk => hk.2) (.int .i64 ((rd_T73 l0 x26_2).f2))) (fun _ hk => hk.2) (.int .i64 ((rd_T73 l0 x26_2).f3))) (fun _ hk => trivial))); (case aS => exact (below_size (by repeat (first | (with_reducible first | exact HB.out | apply bwA | apply bwN | apply bwD | refine below_set ?_ GE312.out) | exact HB.out)))); (case aL => have := LMc37.out; omega); intro v323 w40 ho hb hg hat; rw [← Ny322.out] at ho; have n0_ := Aside0.mk (blk_grown (g := gb312) (o := .cells #[.int .i64 ((rd_T73 l0 x26_2).f0), .int .i64 ((rd_T73 l0 x26_2).f1), .int .i64 ((rd_T73 l0 x26_2).f2), .int .i64 ((rd_T73 l0 x26_2).f3)] 73 (0, 0)) (by (with_reducible repeat (first | refine blk_drewN ?_ _ | refine blk_drew ?_ | refine blk_alloc ?_ _)); refine blk_put (cs := #[.int .i64 ((rd_T73 l0 x26_2).f0), .int .i64 ((rd_T73 l0 x26_2).f1), .int .i64 ((rd_T73 l0 x26_2).f2), .int .i64 0]) ?_ 3 _ rfl; (with_reducible repeat (first | refine blk_drewN ?_ _ | refine blk_drew ?_ | refine blk_alloc ?_ _)); refine blk_put (cs := #[.int .i64 ((rd_T73 l0 x26_2).f0), .int .i64 ((rd_T73 l0 x26_2).f1), .int .i64 0, .int .i64 0]) ?_ 2 _ rfl; (with_reducible repeat (first | refine blk_drewN ?_ _ | refine blk_drew ?_ | refine blk_alloc ?_ _)); refine blk_put (cs := #[.int .i64 ((rd_T73 l0 x26_2).f0), .int .i64 0, .int .i64 0, .int .i64 0]) ?_ 1 _ rfl; (with_reducible repeat (first | refine blk_drewN ?_ _ | refine blk_drew ?_ | refine blk_alloc ?_ _)); refine blk_put (cs := #[.int .i64 0, .int .i64 0, .int .i64 0, .int .i64 0]) ?_ 0 _ rfl; (with_reducible repeat (first | refine blk_drewN ?_ _ | refine blk_drew ?_ | refine blk_alloc ?_ _)); exact BK312.out) hg (Kd.R_ne HO_5.out BK312.out (by decide))); have n1_ := Aside0.mk (hb); have n2_ := Aside0.mk (ho); clear BK312; clear HB; clear HO_5; have BK312 := n0_; have HB := n1_; have HO324 := n2_; clear n0_ n1_ n2_; clear ho hb hg hat))
                 go_roundg k2
                 case measure => have := HJ2.out; have := HK2.out; omega
                 case rel => exact ⟨(y322), (wrap64 (x26_2 + 1)), (by first | rfl | (simp; done) | (simp [*]; done)), H', ⟨by have := HJ2.out; have := HK2.out; omega⟩, ⟨by (with_reducible repeat (first | apply Kd.R_alloc | apply Kd.R_drewN | apply Kd.R_drew)); exact HO324.out⟩, ⟨by repeat (first | (with_reducible first | exact HB.out | apply bwA | apply bwN | apply bwD | refine below_set ?_ GE312.out) | exact HB.out)⟩, ⟨by have e1_ := HL_.out; have e2_ : 0 ≤ x26_2 := of_decide_eq_true (by first | (with_reducible assumption) | assumption); rw [Ny322.out, List.length_append, List.length_singleton]; unfold wrap64; omega⟩⟩
                ·rw [if_neg c37] at H
                 exact absurd H (by simp)
               ·rw [if_neg c36] at H
                have c36b0 : (((rd_T73 l0 x26_2).f3) == 0) = false := beq_eq_false_iff_ne.mpr c36
                have c36b1 : (((rd_T73 l0 x26_2).f3) != 0) = true := bne_iff_ne.mpr c36
                obtain rfl := Option.some.inj H
                have p311 : 0 ≤ (x26_2 : Int) := of_decide_eq_true (by first | (with_reducible assumption) | assumption)
                have q311 : x26_2 < (l0.length : Int) := of_decide_eq_true (by first | (with_reducible assumption) | assumption)
                obtain ⟨ad311, e311, hx311_0, hx311_1, hx311_2, hx311_3⟩ := at_T73 HR0.out x26_2 p311 q311
                cases e311
                try replace hx311_0 := (HB.out.cell (World.block_lt_of_cell? w _ hx311_0)).trans hx311_0
                try replace hx311_1 := (HB.out.cell (World.block_lt_of_cell? w _ hx311_1)).trans hx311_1
                try replace hx311_2 := (HB.out.cell (World.block_lt_of_cell? w _ hx311_2)).trans hx311_2
                try replace hx311_3 := (HB.out.cell (World.block_lt_of_cell? w _ hx311_3)).trans hx311_3
                replace p311 := eq_true p311
                replace q311 := eq_true q311
                go_wp2_with (first | ((with_reducible refine gate_dst (N := 7) rfl ?_); (try (refine gate_guard (by rfl) ?_; dsimp only)); refine box_event ?hg (N := 7) ?hd (cs := #[.int .i64 0, .int .i64 0, .int .i64 0, .int .i64 0]) (t := 73) ?hr ?_; (case hd => rfl); (case hg => rfl); (case hr => first | (go_simp; done) | (go_simp; rfl)); intro gb312 hg w41 hbox hb; have n0_ := Aside0.mk (Kd.R_below (by (with_reducible repeat (first | apply Kd.R_alloc | apply Kd.R_drewN | apply Kd.R_drew)); exact HO_5.out) hb); have n1_ := Aside0.mk (below_step (by repeat (first | (with_reducible first | exact HB.out | apply bwA | apply bwN | apply bwD) | exact HB.out)) hb); have n2_ := Aside0.mk (hbox); have n3_ := Aside0.mk ((by rw [hg]; exact (below_size (by repeat (first | (with_reducible first | exact HB.out | apply bwA | apply bwN | apply bwD) | exact HB.out))) : w.heap.size ≤ gb312)); have n4_ := Aside0.mk ((by rw [hg]; exact (below_size (by repeat (first | (with_reducible first | exact HB.out | apply bwA | apply bwN | apply bwD) | exact HB.out))) : w.heap.size ≤ gb312)); clear HO_5; clear HB; have HO_5 := n0_; have HB := n1_; have BK312 := n2_; have GW312 := n3_; have GE312 := n4_; clear n0_ n1_ n2_ n3_ n4_; clear hb hbox hg; have hcz42_0 : w41.cell? ⟨gb312, 0, none⟩ = some (.int .i64 0) := (blk_cell BK312.out 0).trans rfl; have hcz42_1 : w41.cell? ⟨gb312, 1, none⟩ = some (.int .i64 0) := (blk_cell BK312.out 1).trans rfl; have hcz42_2 : w41.cell? ⟨gb312, 2, none⟩ = some (.int .i64 0) := (blk_cell BK312.out 2).trans rfl; have hcz42_3 : w41.cell? ⟨gb312, 3, none⟩ = some (.int .i64 0) := (blk_cell BK312.out 3).trans rfl; have hfz42_0 := blk_frozen BK312.out 0; have hfz42_1 := blk_frozen BK312.out 1; have hfz42_2 := blk_frozen BK312.out 2; have hfz42_3 := blk_frozen BK312.out 3) | ((with_reducible refine gate_callee (f := 105) rfl ?_); refine goesL_ (some 34) rfl rfl Try.func105 (by kernel_rfl) rfl #[.int .i64 ((rd_T73 l0 x26_2).f0)] rfl (by (try simp only [List.map_toArray, List.map_cons, List.map_nil]); first | done | rfl | (simp only [List.length_drop, List.length_take]; rfl)) ?_; (with_reducible refine (impl_parts.calls k2 ((rd_T73 l0 x26_2).f0) t313 t314 t315 _ A15.out).mono ?_); rintro e w' ⟨rfl, ⟨nd, rfl⟩⟩; refine ⟨_, rfl, ?_⟩) | ((with_reducible refine gate_callee (f := 62) rfl ?_); refine goesL_ (some 40) rfl rfl Try.func62 (by kernel_rfl) rfl #[.int .i64 ((rd_T73 l0 x26_2).f0), .int .i64 0, .int .i64 9] rfl (by (try simp only [List.map_toArray, List.map_cons, List.map_nil]); first | done | rfl | (simp only [List.length_drop, List.length_take]; rfl)) ?_; (with_reducible refine (impl_in.calls ((rd_T73 l0 x26_2).f0) 0 9 t316 _ A16.out).mono ?_); rintro e w' ⟨rfl, ⟨nd, rfl⟩⟩; refine ⟨_, rfl, ?_⟩) | ((with_reducible refine gate_callee (f := 62) rfl ?_); refine goesL_ (some 66) rfl rfl Try.func62 (by kernel_rfl) rfl #[.int .i64 ((rd_T73 l0 x26_2).f1), .int .i64 0, .int .i64 (wrap64 (a1 - 1))] rfl (by (try simp only [List.map_toArray, List.map_cons, List.map_nil]); first | done | rfl | (simp only [List.length_drop, List.length_take]; rfl)) ?_; (with_reducible refine (impl_in.calls ((rd_T73 l0 x26_2).f1) 0 (wrap64 (a1 - 1)) true _ A33.out).mono ?_); rintro e w' ⟨rfl, ⟨nd, rfl⟩⟩; refine ⟨_, rfl, ?_⟩))
                go_ret
                exact ⟨_, by first | rfl | (simp [errW_none, errW_some] <;> rfl) | (simp [*, errW_none, errW_some] <;> rfl), by first | exact Kd.R_nil _ _ _ _ _ | exact Kd.N_nil _ _ _ _ _ | exact Kd.V_nil _ _ _ _ _ | exact Kd.Q_nil _ _ _ _ _ | exact Kd.S_nil _ _ _ _ _, by repeat (first | (with_reducible first | exact HB.out | apply bwA | apply bwN | apply bwD | refine below_set ?_ GE312.out) | exact HB.out), by (try intro _); rfl⟩
              ·rw [if_neg c35] at H
               have c35b0 : (((rd_T73 l0 x26_2).f2) == 0) = false := beq_eq_false_iff_ne.mpr c35
               have c35b1 : (((rd_T73 l0 x26_2).f2) != 0) = true := bne_iff_ne.mpr c35
               obtain rfl := Option.some.inj H
               have p311 : 0 ≤ (x26_2 : Int) := of_decide_eq_true (by first | (with_reducible assumption) | assumption)
               have q311 : x26_2 < (l0.length : Int) := of_decide_eq_true (by first | (with_reducible assumption) | assumption)
               obtain ⟨ad311, e311, hx311_0, hx311_1, hx311_2, hx311_3⟩ := at_T73 HR0.out x26_2 p311 q311
               cases e311
               try replace hx311_0 := (HB.out.cell (World.block_lt_of_cell? w _ hx311_0)).trans hx311_0
               try replace hx311_1 := (HB.out.cell (World.block_lt_of_cell? w _ hx311_1)).trans hx311_1
               try replace hx311_2 := (HB.out.cell (World.block_lt_of_cell? w _ hx311_2)).trans hx311_2
               try replace hx311_3 := (HB.out.cell (World.block_lt_of_cell? w _ hx311_3)).trans hx311_3
               replace p311 := eq_true p311
               replace q311 := eq_true q311
               go_wp2_with (first | ((with_reducible refine gate_dst (N := 7) rfl ?_); (try (refine gate_guard (by rfl) ?_; dsimp only)); refine box_event ?hg (N := 7) ?hd (cs := #[.int .i64 0, .int .i64 0, .int .i64 0, .int .i64 0]) (t := 73) ?hr ?_; (case hd => rfl); (case hg => rfl); (case hr => first | (go_simp; done) | (go_simp; rfl)); intro gb312 hg w43 hbox hb; have n0_ := Aside0.mk (Kd.R_below (by (with_reducible repeat (first | apply Kd.R_alloc | apply Kd.R_drewN | apply Kd.R_drew)); exact HO_5.out) hb); have n1_ := Aside0.mk (below_step (by repeat (first | (with_reducible first | exact HB.out | apply bwA | apply bwN | apply bwD) | exact HB.out)) hb); have n2_ := Aside0.mk (hbox); have n3_ := Aside0.mk ((by rw [hg]; exact (below_size (by repeat (first | (with_reducible first | exact HB.out | apply bwA | apply bwN | apply bwD) | exact HB.out))) : w.heap.size ≤ gb312)); have n4_ := Aside0.mk ((by rw [hg]; exact (below_size (by repeat (first | (with_reducible first | exact HB.out | apply bwA | apply bwN | apply bwD) | exact HB.out))) : w.heap.size ≤ gb312)); clear HO_5; clear HB; have HO_5 := n0_; have HB := n1_; have BK312 := n2_; have GW312 := n3_; have GE312 := n4_; clear n0_ n1_ n2_ n3_ n4_; clear hb hbox hg; have hcz44_0 : w43.cell? ⟨gb312, 0, none⟩ = some (.int .i64 0) := (blk_cell BK312.out 0).trans rfl; have hcz44_1 : w43.cell? ⟨gb312, 1, none⟩ = some (.int .i64 0) := (blk_cell BK312.out 1).trans rfl; have hcz44_2 : w43.cell? ⟨gb312, 2, none⟩ = some (.int .i64 0) := (blk_cell BK312.out 2).trans rfl; have hcz44_3 : w43.cell? ⟨gb312, 3, none⟩ = some (.int .i64 0) := (blk_cell BK312.out 3).trans rfl; have hfz44_0 := blk_frozen BK312.out 0; have hfz44_1 := blk_frozen BK312.out 1; have hfz44_2 := blk_frozen BK312.out 2; have hfz44_3 := blk_frozen BK312.out 3) | ((with_reducible refine gate_callee (f := 105) rfl ?_); refine goesL_ (some 34) rfl rfl Try.func105 (by kernel_rfl) rfl #[.int .i64 ((rd_T73 l0 x26_2).f0)] rfl (by (try simp only [List.map_toArray, List.map_cons, List.map_nil]); first | done | rfl | (simp only [List.length_drop, List.length_take]; rfl)) ?_; (with_reducible refine (impl_parts.calls k2 ((rd_T73 l0 x26_2).f0) t313 t314 t315 _ A15.out).mono ?_); rintro e w' ⟨rfl, ⟨nd, rfl⟩⟩; refine ⟨_, rfl, ?_⟩) | ((with_reducible refine gate_callee (f := 62) rfl ?_); refine goesL_ (some 40) rfl rfl Try.func62 (by kernel_rfl) rfl #[.int .i64 ((rd_T73 l0 x26_2).f0), .int .i64 0, .int .i64 9] rfl (by (try simp only [List.map_toArray, List.map_cons, List.map_nil]); first | done | rfl | (simp only [List.length_drop, List.length_take]; rfl)) ?_; (with_reducible refine (impl_in.calls ((rd_T73 l0 x26_2).f0) 0 9 t316 _ A16.out).mono ?_); rintro e w' ⟨rfl, ⟨nd, rfl⟩⟩; refine ⟨_, rfl, ?_⟩) | ((with_reducible refine gate_callee (f := 62) rfl ?_); refine goesL_ (some 66) rfl rfl Try.func62 (by kernel_rfl) rfl #[.int .i64 ((rd_T73 l0 x26_2).f1), .int .i64 0, .int .i64 (wrap64 (a1 - 1))] rfl (by (try simp only [List.map_toArray, List.map_cons, List.map_nil]); first | done | rfl | (simp only [List.length_drop, List.length_take]; rfl)) ?_; (with_reducible refine (impl_in.calls ((rd_T73 l0 x26_2).f1) 0 (wrap64 (a1 - 1)) true _ A33.out).mono ?_); rintro e w' ⟨rfl, ⟨nd, rfl⟩⟩; refine ⟨_, rfl, ?_⟩))
               go_ret
               exact ⟨_, by first | rfl | (simp [errW_none, errW_some] <;> rfl) | (simp [*, errW_none, errW_some] <;> rfl), by first | exact Kd.R_nil _ _ _ _ _ | exact Kd.N_nil _ _ _ _ _ | exact Kd.V_nil _ _ _ _ _ | exact Kd.Q_nil _ _ _ _ _ | exact Kd.S_nil _ _ _ _ _, by repeat (first | (with_reducible first | exact HB.out | apply bwA | apply bwN | apply bwD | refine below_set ?_ GE312.out) | exact HB.out), by (try intro _); rfl⟩
             ·replace c34 := Bool.eq_false_iff.mpr c34
              subst c34
              have H1 : (some ([] : List Int)) = some r := by rw [if_neg (show ¬ (false = true) by decide)] at H; exact H
              clear H
              have H := H1
              clear H1
              obtain rfl := Option.some.inj H
              have p311 : 0 ≤ (x26_2 : Int) := of_decide_eq_true (by first | (with_reducible assumption) | assumption)
              have q311 : x26_2 < (l0.length : Int) := of_decide_eq_true (by first | (with_reducible assumption) | assumption)
              obtain ⟨ad311, e311, hx311_0, hx311_1, hx311_2, hx311_3⟩ := at_T73 HR0.out x26_2 p311 q311
              cases e311
              try replace hx311_0 := (HB.out.cell (World.block_lt_of_cell? w _ hx311_0)).trans hx311_0
              try replace hx311_1 := (HB.out.cell (World.block_lt_of_cell? w _ hx311_1)).trans hx311_1
              try replace hx311_2 := (HB.out.cell (World.block_lt_of_cell? w _ hx311_2)).trans hx311_2
              try replace hx311_3 := (HB.out.cell (World.block_lt_of_cell? w _ hx311_3)).trans hx311_3
              replace p311 := eq_true p311
              replace q311 := eq_true q311
              go_wp2_with (first | ((with_reducible refine gate_dst (N := 7) rfl ?_); (try (refine gate_guard (by rfl) ?_; dsimp only)); refine box_event ?hg (N := 7) ?hd (cs := #[.int .i64 0, .int .i64 0, .int .i64 0, .int .i64 0]) (t := 73) ?hr ?_; (case hd => rfl); (case hg => rfl); (case hr => first | (go_simp; done) | (go_simp; rfl)); intro gb312 hg w45 hbox hb; have n0_ := Aside0.mk (Kd.R_below (by (with_reducible repeat (first | apply Kd.R_alloc | apply Kd.R_drewN | apply Kd.R_drew)); exact HO_5.out) hb); have n1_ := Aside0.mk (below_step (by repeat (first | (with_reducible first | exact HB.out | apply bwA | apply bwN | apply bwD) | exact HB.out)) hb); have n2_ := Aside0.mk (hbox); have n3_ := Aside0.mk ((by rw [hg]; exact (below_size (by repeat (first | (with_reducible first | exact HB.out | apply bwA | apply bwN | apply bwD) | exact HB.out))) : w.heap.size ≤ gb312)); have n4_ := Aside0.mk ((by rw [hg]; exact (below_size (by repeat (first | (with_reducible first | exact HB.out | apply bwA | apply bwN | apply bwD) | exact HB.out))) : w.heap.size ≤ gb312)); clear HO_5; clear HB; have HO_5 := n0_; have HB := n1_; have BK312 := n2_; have GW312 := n3_; have GE312 := n4_; clear n0_ n1_ n2_ n3_ n4_; clear hb hbox hg; have hcz46_0 : w45.cell? ⟨gb312, 0, none⟩ = some (.int .i64 0) := (blk_cell BK312.out 0).trans rfl; have hcz46_1 : w45.cell? ⟨gb312, 1, none⟩ = some (.int .i64 0) := (blk_cell BK312.out 1).trans rfl; have hcz46_2 : w45.cell? ⟨gb312, 2, none⟩ = some (.int .i64 0) := (blk_cell BK312.out 2).trans rfl; have hcz46_3 : w45.cell? ⟨gb312, 3, none⟩ = some (.int .i64 0) := (blk_cell BK312.out 3).trans rfl; have hfz46_0 := blk_frozen BK312.out 0; have hfz46_1 := blk_frozen BK312.out 1; have hfz46_2 := blk_frozen BK312.out 2; have hfz46_3 := blk_frozen BK312.out 3) | ((with_reducible refine gate_callee (f := 105) rfl ?_); refine goesL_ (some 34) rfl rfl Try.func105 (by kernel_rfl) rfl #[.int .i64 ((rd_T73 l0 x26_2).f0)] rfl (by (try simp only [List.map_toArray, List.map_cons, List.map_nil]); first | done | rfl | (simp only [List.length_drop, List.length_take]; rfl)) ?_; (with_reducible refine (impl_parts.calls k2 ((rd_T73 l0 x26_2).f0) t313 t314 t315 _ A15.out).mono ?_); rintro e w' ⟨rfl, ⟨nd, rfl⟩⟩; refine ⟨_, rfl, ?_⟩) | ((with_reducible refine gate_callee (f := 62) rfl ?_); refine goesL_ (some 40) rfl rfl Try.func62 (by kernel_rfl) rfl #[.int .i64 ((rd_T73 l0 x26_2).f0), .int .i64 0, .int .i64 9] rfl (by (try simp only [List.map_toArray, List.map_cons, List.map_nil]); first | done | rfl | (simp only [List.length_drop, List.length_take]; rfl)) ?_; (with_reducible refine (impl_in.calls ((rd_T73 l0 x26_2).f0) 0 9 t316 _ A16.out).mono ?_); rintro e w' ⟨rfl, ⟨nd, rfl⟩⟩; refine ⟨_, rfl, ?_⟩) | ((with_reducible refine gate_callee (f := 62) rfl ?_); refine goesL_ (some 66) rfl rfl Try.func62 (by kernel_rfl) rfl #[.int .i64 ((rd_T73 l0 x26_2).f1), .int .i64 0, .int .i64 (wrap64 (a1 - 1))] rfl (by (try simp only [List.map_toArray, List.map_cons, List.map_nil]); first | done | rfl | (simp only [List.length_drop, List.length_take]; rfl)) ?_; (with_reducible refine (impl_in.calls ((rd_T73 l0 x26_2).f1) 0 (wrap64 (a1 - 1)) false _ A33.out).mono ?_); rintro e w' ⟨rfl, ⟨nd, rfl⟩⟩; refine ⟨_, rfl, ?_⟩))
              go_ret
              exact ⟨_, by first | rfl | (simp [errW_none, errW_some] <;> rfl) | (simp [*, errW_none, errW_some] <;> rfl), by first | exact Kd.R_nil _ _ _ _ _ | exact Kd.N_nil _ _ _ _ _ | exact Kd.V_nil _ _ _ _ _ | exact Kd.Q_nil _ _ _ _ _ | exact Kd.S_nil _ _ _ _ _, by repeat (first | (with_reducible first | exact HB.out | apply bwA | apply bwN | apply bwD | refine below_set ?_ GE312.out) | exact HB.out), by (try intro _); rfl⟩
            ·rw [if_neg c32] at H
             have c32b0 : (((rd_T73 l0 x26_2).f0) == 1) = false := beq_eq_false_iff_ne.mpr c32
             have c32b1 : (((rd_T73 l0 x26_2).f0) != 1) = true := bne_iff_ne.mpr c32
             by_cases c47 : t316 = true
             ·subst c47
              have H1 : (if ((rd_T73 l0 x26_2).f1) = 0 then ((impl_in.f ((rd_T73 l0 x26_2).f2) 0 (wrap64 (x26_2 - 1))).bind fun t325 => (if t325 = true then ((impl_in.f ((rd_T73 l0 x26_2).f3) 0 (wrap64 (x26_2 - 1))).bind fun t326 => (if t326 = true then (if 0 ≤ ((rd_T73 l0 x26_2).f2) then (if ((rd_T73 l0 x26_2).f2) < (x5_2.length : Int) then (if (rd x5_2 ((rd_T73 l0 x26_2).f2)) = t314 then (if 0 ≤ ((rd_T73 l0 x26_2).f3) then (if ((rd_T73 l0 x26_2).f3) < (x5_2.length : Int) then (if (rd x5_2 ((rd_T73 l0 x26_2).f3)) = t314 then (if t313 = 2 then (if x5_2.length < 17592186044416 then (impl_kindsOf.l0 k2 a1 (x5_2 ++ [t315]) l0 (l0.length : Int) (wrap64 (x26_2 + 1))) else (none)) else (if (((rd_T73 l0 x26_2).f2) = ((rd_T73 l0 x26_2).f3)) then (if x5_2.length < 17592186044416 then (impl_kindsOf.l0 k2 a1 (x5_2 ++ [t315]) l0 (l0.length : Int) (wrap64 (x26_2 + 1))) else (none)) else (some ([] : List Int)))) else (some ([] : List Int))) else (none)) else (none)) else (some ([] : List Int))) else (none)) else (none)) else (some ([] : List Int)))) else (some ([] : List Int)))) else (some ([] : List Int))) = some r := by rw [if_pos rfl] at H; exact H
              clear H
              have H := H1
              clear H1
              by_cases c48 : ((rd_T73 l0 x26_2).f1) = 0
              ·rw [if_pos c48] at H
               have c48b0 : (((rd_T73 l0 x26_2).f1) == 0) = true := beq_iff_eq.mpr c48
               have c48b1 : (((rd_T73 l0 x26_2).f1) != 0) = false := bne_eq_false_iff_eq.mpr c48
               clear c48
               replace H := Option.bind_eq_some_iff.mp H
               obtain ⟨t325, A490, H⟩ := H
               replace H : (if t325 = true then ((impl_in.f ((rd_T73 l0 x26_2).f3) 0 (wrap64 (x26_2 - 1))).bind fun t326 => (if t326 = true then (if 0 ≤ ((rd_T73 l0 x26_2).f2) then (if ((rd_T73 l0 x26_2).f2) < (x5_2.length : Int) then (if (rd x5_2 ((rd_T73 l0 x26_2).f2)) = t314 then (if 0 ≤ ((rd_T73 l0 x26_2).f3) then (if ((rd_T73 l0 x26_2).f3) < (x5_2.length : Int) then (if (rd x5_2 ((rd_T73 l0 x26_2).f3)) = t314 then (if t313 = 2 then (if x5_2.length < 17592186044416 then (impl_kindsOf.l0 k2 a1 (x5_2 ++ [t315]) l0 (l0.length : Int) (wrap64 (x26_2 + 1))) else (none)) else (if (((rd_T73 l0 x26_2).f2) = ((rd_T73 l0 x26_2).f3)) then (if x5_2.length < 17592186044416 then (impl_kindsOf.l0 k2 a1 (x5_2 ++ [t315]) l0 (l0.length : Int) (wrap64 (x26_2 + 1))) else (none)) else (some ([] : List Int)))) else (some ([] : List Int))) else (none)) else (none)) else (some ([] : List Int))) else (none)) else (none)) else (some ([] : List Int)))) else (some ([] : List Int))) = some r := H
               have A49 := Aside0.mk A490
               clear A490
               by_cases c50 : t325 = true
               ·subst c50
                have H1 : ((impl_in.f ((rd_T73 l0 x26_2).f3) 0 (wrap64 (x26_2 - 1))).bind fun t326 => (if t326 = true then (if 0 ≤ ((rd_T73 l0 x26_2).f2) then (if ((rd_T73 l0 x26_2).f2) < (x5_2.length : Int) then (if (rd x5_2 ((rd_T73 l0 x26_2).f2)) = t314 then (if 0 ≤ ((rd_T73 l0 x26_2).f3) then (if ((rd_T73 l0 x26_2).f3) < (x5_2.length : Int) then (if (rd x5_2 ((rd_T73 l0 x26_2).f3)) = t314 then (if t313 = 2 then (if x5_2.length < 17592186044416 then (impl_kindsOf.l0 k2 a1 (x5_2 ++ [t315]) l0 (l0.length : Int) (wrap64 (x26_2 + 1))) else (none)) else (if (((rd_T73 l0 x26_2).f2) = ((rd_T73 l0 x26_2).f3)) then (if x5_2.length < 17592186044416 then (impl_kindsOf.l0 k2 a1 (x5_2 ++ [t315]) l0 (l0.length : Int) (wrap64 (x26_2 + 1))) else (none)) else (some ([] : List Int)))) else (some ([] : List Int))) else (none)) else (none)) else (some ([] : List Int))) else (none)) else (none)) else (some ([] : List Int)))) = some r := by rw [if_pos rfl] at H; exact H
                clear H
                have H := H1
                clear H1
                replace H := Option.bind_eq_some_iff.mp H
                obtain ⟨t326, A510, H⟩ := H
                replace H : (if t326 = true then (if 0 ≤ ((rd_T73 l0 x26_2).f2) then (if ((rd_T73 l0 x26_2).f2) < (x5_2.length : Int) then (if (rd x5_2 ((rd_T73 l0 x26_2).f2)) = t314 then (if 0 ≤ ((rd_T73 l0 x26_2).f3) then (if ((rd_T73 l0 x26_2).f3) < (x5_2.length : Int) then (if (rd x5_2 ((rd_T73 l0 x26_2).f3)) = t314 then (if t313 = 2 then (if x5_2.length < 17592186044416 then (impl_kindsOf.l0 k2 a1 (x5_2 ++ [t315]) l0 (l0.length : Int) (wrap64 (x26_2 + 1))) else (none)) else (if (((rd_T73 l0 x26_2).f2) = ((rd_T73 l0 x26_2).f3)) then (if x5_2.length < 17592186044416 then (impl_kindsOf.l0 k2 a1 (x5_2 ++ [t315]) l0 (l0.length : Int) (wrap64 (x26_2 + 1))) else (none)) else (some ([] : List Int)))) else (some ([] : List Int))) else (none)) else (none)) else (some ([] : List Int))) else (none)) else (none)) else (some ([] : List Int))) = some r := H
                have A51 := Aside0.mk A510
                clear A510
                by_cases c52 : t326 = true
                ·subst c52
                 have H1 : (if 0 ≤ ((rd_T73 l0 x26_2).f2) then (if ((rd_T73 l0 x26_2).f2) < (x5_2.length : Int) then (if (rd x5_2 ((rd_T73 l0 x26_2).f2)) = t314 then (if 0 ≤ ((rd_T73 l0 x26_2).f3) then (if ((rd_T73 l0 x26_2).f3) < (x5_2.length : Int) then (if (rd x5_2 ((rd_T73 l0 x26_2).f3)) = t314 then (if t313 = 2 then (if x5_2.length < 17592186044416 then (impl_kindsOf.l0 k2 a1 (x5_2 ++ [t315]) l0 (l0.length : Int) (wrap64 (x26_2 + 1))) else (none)) else (if (((rd_T73 l0 x26_2).f2) = ((rd_T73 l0 x26_2).f3)) then (if x5_2.length < 17592186044416 then (impl_kindsOf.l0 k2 a1 (x5_2 ++ [t315]) l0 (l0.length : Int) (wrap64 (x26_2 + 1))) else (none)) else (some ([] : List Int)))) else (some ([] : List Int))) else (none)) else (none)) else (some ([] : List Int))) else (none)) else (none)) = some r := by rw [if_pos rfl] at H; exact H
                 clear H
                 have H := H1
                 clear H1
                 by_cases c53 : 0 ≤ ((rd_T73 l0 x26_2).f2)
                 ·rw [if_pos c53] at H
                  have c53b0 : decide (0 ≤ ((rd_T73 l0 x26_2).f2)) = true := decide_eq_true c53
                  clear c53
                  by_cases c54 : ((rd_T73 l0 x26_2).f2) < (x5_2.length : Int)
                  ·rw [if_pos c54] at H
                   have c54b0 : decide (((rd_T73 l0 x26_2).f2) < (x5_2.length : Int)) = true := decide_eq_true c54
                   clear c54
                   by_cases c55 : (rd x5_2 ((rd_T73 l0 x26_2).f2)) = t314
                   ·rw [if_pos c55] at H
                    have c55b0 : ((rd x5_2 ((rd_T73 l0 x26_2).f2)) == t314) = true := beq_iff_eq.mpr c55
                    have c55b1 : ((rd x5_2 ((rd_T73 l0 x26_2).f2)) != t314) = false := bne_eq_false_iff_eq.mpr c55
                    clear c55
                    by_cases c56 : 0 ≤ ((rd_T73 l0 x26_2).f3)
                    ·rw [if_pos c56] at H
                     have c56b0 : decide (0 ≤ ((rd_T73 l0 x26_2).f3)) = true := decide_eq_true c56
                     clear c56
                     by_cases c57 : ((rd_T73 l0 x26_2).f3) < (x5_2.length : Int)
                     ·rw [if_pos c57] at H
                      have c57b0 : decide (((rd_T73 l0 x26_2).f3) < (x5_2.length : Int)) = true := decide_eq_true c57
                      clear c57
                      by_cases c58 : (rd x5_2 ((rd_T73 l0 x26_2).f3)) = t314
                      ·rw [if_pos c58] at H
                       have c58b0 : ((rd x5_2 ((rd_T73 l0 x26_2).f3)) == t314) = true := beq_iff_eq.mpr c58
                       have c58b1 : ((rd x5_2 ((rd_T73 l0 x26_2).f3)) != t314) = false := bne_eq_false_iff_eq.mpr c58
                       clear c58
                       by_cases c59 : t313 = 2
                       ·rw [if_pos c59] at H
                        have c59b0 : (t313 == 2) = true := beq_iff_eq.mpr c59
                        have c59b1 : (t313 != 2) = false := bne_eq_false_iff_eq.mpr c59
                        clear c59
                        by_cases c60 : x5_2.length < 17592186044416
                        ·rw [if_pos c60] at H
                         have LMc60 := Aside0.mk c60
                         clear c60
                         obtain ⟨y329, hy329⟩ : ∃ y_ : List Int, y_ = (x5_2 ++ [t315]) := ⟨_, rfl⟩
                         replace H : (impl_kindsOf.l0 k2 a1 y329 l0 (l0.length : Int) (wrap64 (x26_2 + 1))) = some r := by first | (rw [hy329]; with_reducible exact H) | (have H2_ := (Option.bind_some _ _).symm.trans H; rw [hy329]; with_reducible exact H2_) | (have H2_ := (Option.bind_some _ _).symm.trans H; with_reducible exact H2_) | with_reducible exact H | (rw [hy329]; exact H) | exact H
                         have Ny329 := Aside0.mk hy329
                         clear hy329
                         have H' := Aside0.mk H
                         clear H
                         have p311 : 0 ≤ (x26_2 : Int) := of_decide_eq_true (by first | (with_reducible assumption) | assumption)
                         have q311 : x26_2 < (l0.length : Int) := of_decide_eq_true (by first | (with_reducible assumption) | assumption)
                         obtain ⟨ad311, e311, hx311_0, hx311_1, hx311_2, hx311_3⟩ := at_T73 HR0.out x26_2 p311 q311
                         cases e311
                         try replace hx311_0 := (HB.out.cell (World.block_lt_of_cell? w _ hx311_0)).trans hx311_0
                         try replace hx311_1 := (HB.out.cell (World.block_lt_of_cell? w _ hx311_1)).trans hx311_1
                         try replace hx311_2 := (HB.out.cell (World.block_lt_of_cell? w _ hx311_2)).trans hx311_2
                         try replace hx311_3 := (HB.out.cell (World.block_lt_of_cell? w _ hx311_3)).trans hx311_3
                         replace p311 := eq_true p311
                         replace q311 := eq_true q311
                         go_wp2_with (first | ((with_reducible refine gate_dst (N := 7) rfl ?_); (try (refine gate_guard (by rfl) ?_; dsimp only)); refine box_event ?hg (N := 7) ?hd (cs := #[.int .i64 0, .int .i64 0, .int .i64 0, .int .i64 0]) (t := 73) ?hr ?_; (case hd => rfl); (case hg => rfl); (case hr => first | (go_simp; done) | (go_simp; rfl)); intro gb312 hg w61 hbox hb; have n0_ := Aside0.mk (Kd.R_below (by (with_reducible repeat (first | apply Kd.R_alloc | apply Kd.R_drewN | apply Kd.R_drew)); exact HO_5.out) hb); have n1_ := Aside0.mk (below_step (by repeat (first | (with_reducible first | exact HB.out | apply bwA | apply bwN | apply bwD) | exact HB.out)) hb); have n2_ := Aside0.mk (hbox); have n3_ := Aside0.mk ((by rw [hg]; exact (below_size (by repeat (first | (with_reducible first | exact HB.out | apply bwA | apply bwN | apply bwD) | exact HB.out))) : w.heap.size ≤ gb312)); have n4_ := Aside0.mk ((by rw [hg]; exact (below_size (by repeat (first | (with_reducible first | exact HB.out | apply bwA | apply bwN | apply bwD) | exact HB.out))) : w.heap.size ≤ gb312)); clear HO_5; clear HB; have HO_5 := n0_; have HB := n1_; have BK312 := n2_; have GW312 := n3_; have GE312 := n4_; clear n0_ n1_ n2_ n3_ n4_; clear hb hbox hg; have hcz62_0 : w61.cell? ⟨gb312, 0, none⟩ = some (.int .i64 0) := (blk_cell BK312.out 0).trans rfl; have hcz62_1 : w61.cell? ⟨gb312, 1, none⟩ = some (.int .i64 0) := (blk_cell BK312.out 1).trans rfl; have hcz62_2 : w61.cell? ⟨gb312, 2, none⟩ = some (.int .i64 0) := (blk_cell BK312.out 2).trans rfl; have hcz62_3 : w61.cell? ⟨gb312, 3, none⟩ = some (.int .i64 0) := (blk_cell BK312.out 3).trans rfl; have hfz62_0 := blk_frozen BK312.out 0; have hfz62_1 := blk_frozen BK312.out 1; have hfz62_2 := blk_frozen BK312.out 2; have hfz62_3 := blk_frozen BK312.out 3) | ((with_reducible refine gate_callee (f := 105) rfl ?_); refine goesL_ (some 34) rfl rfl Try.func105 (by kernel_rfl) rfl #[.int .i64 ((rd_T73 l0 x26_2).f0)] rfl (by (try simp only [List.map_toArray, List.map_cons, List.map_nil]); first | done | rfl | (simp only [List.length_drop, List.length_take]; rfl)) ?_; (with_reducible refine (impl_parts.calls k2 ((rd_T73 l0 x26_2).f0) t313 t314 t315 _ A15.out).mono ?_); rintro e w' ⟨rfl, ⟨nd, rfl⟩⟩; refine ⟨_, rfl, ?_⟩) | ((with_reducible refine gate_callee (f := 62) rfl ?_); refine goesL_ (some 40) rfl rfl Try.func62 (by kernel_rfl) rfl #[.int .i64 ((rd_T73 l0 x26_2).f0), .int .i64 0, .int .i64 9] rfl (by (try simp only [List.map_toArray, List.map_cons, List.map_nil]); first | done | rfl | (simp only [List.length_drop, List.length_take]; rfl)) ?_; (with_reducible refine (impl_in.calls ((rd_T73 l0 x26_2).f0) 0 9 true _ A16.out).mono ?_); rintro e w' ⟨rfl, ⟨nd, rfl⟩⟩; refine ⟨_, rfl, ?_⟩) | (go_at_call 62; (with_reducible refine (impl_in.calls ((rd_T73 l0 x26_2).f2) 0 (wrap64 (x26_2 - 1)) true _ A49.out).mono ?_); rintro e w' ⟨rfl, ⟨nd, rfl⟩⟩) | (go_at_call 62; (with_reducible refine (impl_in.calls ((rd_T73 l0 x26_2).f3) 0 (wrap64 (x26_2 - 1)) true _ A51.out).mono ?_); rintro e w' ⟨rfl, ⟨nd, rfl⟩⟩; obtain ⟨Ao63, co63, eo63⟩ := Kd.R_slice HO_5.out; subst eo63; have p327 : 0 ≤ (((rd_T73 l0 x26_2).f2) : Int) := of_decide_eq_true (by first | (with_reducible assumption) | assumption); have q327 : ((rd_T73 l0 x26_2).f2) < (x5_2.length : Int) := of_decide_eq_true (by first | (with_reducible assumption) | assumption); obtain ⟨ad327, e327, hx327_0⟩ := Kd.at_int (Kd.R_reads' HO_5.out).2.2 ((rd_T73 l0 x26_2).f2) p327 q327; cases e327; have hn327_0 : ad327.block ≠ gb312 := Kd.own_blk (Kd.R_ne HO_5.out BK312.out (by decide)); have hn327_1 : ad327.block ≠ gb312 := Kd.own_blk (Kd.R_ne HO_5.out BK312.out (by decide)); have hn327_2 : ad327.block ≠ gb312 := Kd.own_blk (Kd.R_ne HO_5.out BK312.out (by decide)); have hn327_3 : ad327.block ≠ gb312 := Kd.own_blk (Kd.R_ne HO_5.out BK312.out (by decide)); replace hx327_0 := (cell_far (p := ⟨gb312, 0, none⟩) (by first | (rw [add_block]; exact hn327_0) | (show (Addr.add _ _).block ≠ _; rw [add_block]; exact hn327_0) | exact hn327_0) (.int .i64 ((rd_T73 l0 x26_2).f0))).trans hx327_0; replace hx327_0 := (cell_far (p := ⟨gb312, 1, none⟩) (by first | (rw [add_block]; exact hn327_1) | (show (Addr.add _ _).block ≠ _; rw [add_block]; exact hn327_1) | exact hn327_1) (.int .i64 ((rd_T73 l0 x26_2).f1))).trans hx327_0; replace hx327_0 := (cell_far (p := ⟨gb312, 2, none⟩) (by first | (rw [add_block]; exact hn327_2) | (show (Addr.add _ _).block ≠ _; rw [add_block]; exact hn327_2) | exact hn327_2) (.int .i64 ((rd_T73 l0 x26_2).f2))).trans hx327_0; replace hx327_0 := (cell_far (p := ⟨gb312, 3, none⟩) (by first | (rw [add_block]; exact hn327_3) | (show (Addr.add _ _).block ≠ _; rw [add_block]; exact hn327_3) | exact hn327_3) (.int .i64 ((rd_T73 l0 x26_2).f3))).trans hx327_0; clear hn327_0; clear hn327_1; clear hn327_2; clear hn327_3; replace p327 := eq_true p327; replace q327 := eq_true q327; have p328 : 0 ≤ (((rd_T73 l0 x26_2).f3) : Int) := of_decide_eq_true (by first | (with_reducible assumption) | assumption); have q328 : ((rd_T73 l0 x26_2).f3) < (x5_2.length : Int) := of_decide_eq_true (by first | (with_reducible assumption) | assumption); obtain ⟨ad328, e328, hx328_0⟩ := Kd.at_int (Kd.R_reads' HO_5.out).2.2 ((rd_T73 l0 x26_2).f3) p328 q328; obtain rfl : ad327 = ad328 := (by injection e328); have hn328_0 : ad327.block ≠ gb312 := Kd.own_blk (Kd.R_ne HO_5.out BK312.out (by decide)); have hn328_1 : ad327.block ≠ gb312 := Kd.own_blk (Kd.R_ne HO_5.out BK312.out (by decide)); have hn328_2 : ad327.block ≠ gb312 := Kd.own_blk (Kd.R_ne HO_5.out BK312.out (by decide)); have hn328_3 : ad327.block ≠ gb312 := Kd.own_blk (Kd.R_ne HO_5.out BK312.out (by decide)); replace hx328_0 := (cell_far (p := ⟨gb312, 0, none⟩) (by first | (rw [add_block]; exact hn328_0) | (show (Addr.add _ _).block ≠ _; rw [add_block]; exact hn328_0) | exact hn328_0) (.int .i64 ((rd_T73 l0 x26_2).f0))).trans hx328_0; replace hx328_0 := (cell_far (p := ⟨gb312, 1, none⟩) (by first | (rw [add_block]; exact hn328_1) | (show (Addr.add _ _).block ≠ _; rw [add_block]; exact hn328_1) | exact hn328_1) (.int .i64 ((rd_T73 l0 x26_2).f1))).trans hx328_0; replace hx328_0 := (cell_far (p := ⟨gb312, 2, none⟩) (by first | (rw [add_block]; exact hn328_2) | (show (Addr.add _ _).block ≠ _; rw [add_block]; exact hn328_2) | exact hn328_2) (.int .i64 ((rd_T73 l0 x26_2).f2))).trans hx328_0; replace hx328_0 := (cell_far (p := ⟨gb312, 3, none⟩) (by first | (rw [add_block]; exact hn328_3) | (show (Addr.add _ _).block ≠ _; rw [add_block]; exact hn328_3) | exact hn328_3) (.int .i64 ((rd_T73 l0 x26_2).f3))).trans hx328_0; clear hn328_0; clear hn328_1; clear hn328_2; clear hn328_3; replace p328 := eq_true p328; replace q328 := eq_true q328) | ((with_reducible refine gate_builtin (b := .append) (xs := #[.tmp 127, .tmp 129]) rfl ?_); (try (refine gate_guard (by rfl) ?_; dsimp only)); at_builtin; refine Kd.R_append (Kd.int .i64) (w0 := w) w.heap.size rfl (.tmp 127) (.tmp 129) 23 3 (.int .i64 0) 8 rfl Try.underlying23 info3 rfl (by decide) (by omega) (.slice (some ad327) x5_2.length co63) x5_2 t315 [.int .i64 t315] (fun _ => True) (fun _ => False) rfl (by first | (go_simp; done) | (go_simp; rfl)) ?aP (fun _ hk => hk.elim) ?aF ?aO ?aB ?aS ?aL ?_; (case aP => exact rfl); (case aB => exact (by repeat (first | (with_reducible first | exact HB.out | apply bwA | apply bwN | apply bwD | refine below_set ?_ GE312.out) | exact HB.out))); (case aF => exact (fun _ _ => trivial)); (case aO => exact (by (with_reducible repeat (first | apply Kd.R_alloc | apply Kd.R_drewN | apply Kd.R_drew)); exact Kd.R_mono (Kd.R_far (p := ⟨gb312, 3, none⟩) (Kd.R_far (p := ⟨gb312, 2, none⟩) (Kd.R_far (p := ⟨gb312, 1, none⟩) (Kd.R_far (p := ⟨gb312, 0, none⟩) (Kd.R_types HO_5.out BK312.out (by decide)) (fun _ hk => hk.2) (.int .i64 ((rd_T73 l0 x26_2).f0))) (fun _ hk => hk.2) (.int .i64 ((rd_T73 l0 x26_2).f1))) (fun _ hk => hk.2) (.int .i64 ((rd_T73 l0 x26_2).f2))) (fun _ hk => hk.2) (.int .i64 ((rd_T73 l0 x26_2).f3))) (fun _ hk => trivial))); (case aS => exact (below_size (by repeat (first | (with_reducible first | exact HB.out | apply bwA | apply bwN | apply bwD | refine below_set ?_ GE312.out) | exact HB.out)))); (case aL => have := LMc60.out; omega); intro v330 w64 ho hb hg hat; rw [← Ny329.out] at ho; have n0_ := Aside0.mk (blk_grown (g := gb312) (o := .cells #[.int .i64 ((rd_T73 l0 x26_2).f0), .int .i64 ((rd_T73 l0 x26_2).f1), .int .i64 ((rd_T73 l0 x26_2).f2), .int .i64 ((rd_T73 l0 x26_2).f3)] 73 (0, 0)) (by (with_reducible repeat (first | refine blk_drewN ?_ _ | refine blk_drew ?_ | refine blk_alloc ?_ _)); refine blk_put (cs := #[.int .i64 ((rd_T73 l0 x26_2).f0), .int .i64 ((rd_T73 l0 x26_2).f1), .int .i64 ((rd_T73 l0 x26_2).f2), .int .i64 0]) ?_ 3 _ rfl; (with_reducible repeat (first | refine blk_drewN ?_ _ | refine blk_drew ?_ | refine blk_alloc ?_ _)); refine blk_put (cs := #[.int .i64 ((rd_T73 l0 x26_2).f0), .int .i64 ((rd_T73 l0 x26_2).f1), .int .i64 0, .int .i64 0]) ?_ 2 _ rfl; (with_reducible repeat (first | refine blk_drewN ?_ _ | refine blk_drew ?_ | refine blk_alloc ?_ _)); refine blk_put (cs := #[.int .i64 ((rd_T73 l0 x26_2).f0), .int .i64 0, .int .i64 0, .int .i64 0]) ?_ 1 _ rfl; (with_reducible repeat (first | refine blk_drewN ?_ _ | refine blk_drew ?_ | refine blk_alloc ?_ _)); refine blk_put (cs := #[.int .i64 0, .int .i64 0, .int .i64 0, .int .i64 0]) ?_ 0 _ rfl; (with_reducible repeat (first | refine blk_drewN ?_ _ | refine blk_drew ?_ | refine blk_alloc ?_ _)); exact BK312.out) hg (Kd.R_ne HO_5.out BK312.out (by decide))); have n1_ := Aside0.mk (hb); have n2_ := Aside0.mk (ho); clear BK312; clear HB; clear HO_5; have BK312 := n0_; have HB := n1_; have HO331 := n2_; clear n0_ n1_ n2_; clear ho hb hg hat))
                         go_roundg k2
                         case measure => have := HJ2.out; have := HK2.out; omega
                         case rel => exact ⟨(y329), (wrap64 (x26_2 + 1)), (by first | rfl | (simp; done) | (simp [*]; done)), H', ⟨by have := HJ2.out; have := HK2.out; omega⟩, ⟨by (with_reducible repeat (first | apply Kd.R_alloc | apply Kd.R_drewN | apply Kd.R_drew)); exact HO331.out⟩, ⟨by repeat (first | (with_reducible first | exact HB.out | apply bwA | apply bwN | apply bwD | refine below_set ?_ GE312.out) | exact HB.out)⟩, ⟨by have e1_ := HL_.out; have e2_ : 0 ≤ x26_2 := of_decide_eq_true (by first | (with_reducible assumption) | assumption); rw [Ny329.out, List.length_append, List.length_singleton]; unfold wrap64; omega⟩⟩
                        ·rw [if_neg c60] at H
                         exact absurd H (by simp)
                       ·rw [if_neg c59] at H
                        have c59b0 : (t313 == 2) = false := beq_eq_false_iff_ne.mpr c59
                        have c59b1 : (t313 != 2) = true := bne_iff_ne.mpr c59
                        by_cases c65 : (((rd_T73 l0 x26_2).f2) = ((rd_T73 l0 x26_2).f3))
                        ·rw [if_pos c65] at H
                         have c65b0 : (((rd_T73 l0 x26_2).f2) == ((rd_T73 l0 x26_2).f3)) = true := beq_iff_eq.mpr c65
                         have c65b1 : (((rd_T73 l0 x26_2).f2) != ((rd_T73 l0 x26_2).f3)) = false := bne_eq_false_iff_eq.mpr c65
                         clear c65
                         by_cases c66 : x5_2.length < 17592186044416
                         ·rw [if_pos c66] at H
                          have LMc66 := Aside0.mk c66
                          clear c66
                          obtain ⟨y332, hy332⟩ : ∃ y_ : List Int, y_ = (x5_2 ++ [t315]) := ⟨_, rfl⟩
                          replace H : (impl_kindsOf.l0 k2 a1 y332 l0 (l0.length : Int) (wrap64 (x26_2 + 1))) = some r := by first | (rw [hy332]; with_reducible exact H) | (have H2_ := (Option.bind_some _ _).symm.trans H; rw [hy332]; with_reducible exact H2_) | (have H2_ := (Option.bind_some _ _).symm.trans H; with_reducible exact H2_) | with_reducible exact H | (rw [hy332]; exact H) | exact H
                          have Ny332 := Aside0.mk hy332
                          clear hy332
                          have H' := Aside0.mk H
                          clear H
                          have p311 : 0 ≤ (x26_2 : Int) := of_decide_eq_true (by first | (with_reducible assumption) | assumption)
                          have q311 : x26_2 < (l0.length : Int) := of_decide_eq_true (by first | (with_reducible assumption) | assumption)
                          obtain ⟨ad311, e311, hx311_0, hx311_1, hx311_2, hx311_3⟩ := at_T73 HR0.out x26_2 p311 q311
                          cases e311
                          try replace hx311_0 := (HB.out.cell (World.block_lt_of_cell? w _ hx311_0)).trans hx311_0
                          try replace hx311_1 := (HB.out.cell (World.block_lt_of_cell? w _ hx311_1)).trans hx311_1
                          try replace hx311_2 := (HB.out.cell (World.block_lt_of_cell? w _ hx311_2)).trans hx311_2
                          try replace hx311_3 := (HB.out.cell (World.block_lt_of_cell? w _ hx311_3)).trans hx311_3
                          replace p311 := eq_true p311
                          replace q311 := eq_true q311
                          go_wp2_with (first | ((with_reducible refine gate_dst (N := 7) rfl ?_); (try (refine gate_guard (by rfl) ?_; dsimp only)); refine box_event ?hg (N := 7) ?hd (cs := #[.int .i64 0, .int .i64 0, .int .i64 0, .int .i64 0]) (t := 73) ?hr ?_; (case hd => rfl); (case hg => rfl); (case hr => first | (go_simp; done) | (go_simp; rfl)); intro gb312 hg w67 hbox hb; have n0_ := Aside0.mk (Kd.R_below (by (with_reducible repeat (first | apply Kd.R_alloc | apply Kd.R_drewN | apply Kd.R_drew)); exact HO_5.out) hb); have n1_ := Aside0.mk (below_step (by repeat (first | (with_reducible first | exact HB.out | apply bwA | apply bwN | apply bwD) | exact HB.out)) hb); have n2_ := Aside0.mk (hbox); have n3_ := Aside0.mk ((by rw [hg]; exact (below_size (by repeat (first | (with_reducible first | exact HB.out | apply bwA | apply bwN | apply bwD) | exact HB.out))) : w.heap.size ≤ gb312)); have n4_ := Aside0.mk ((by rw [hg]; exact (below_size (by repeat (first | (with_reducible first | exact HB.out | apply bwA | apply bwN | apply bwD) | exact HB.out))) : w.heap.size ≤ gb312)); clear HO_5; clear HB; have HO_5 := n0_; have HB := n1_; have BK312 := n2_; have GW312 := n3_; have GE312 := n4_; clear n0_ n1_ n2_ n3_ n4_; clear hb hbox hg; have hcz68_0 : w67.cell? ⟨gb312, 0, none⟩ = some (.int .i64 0) := (blk_cell BK312.out 0).trans rfl; have hcz68_1 : w67.cell? ⟨gb312, 1, none⟩ = some (.int .i64 0) := (blk_cell BK312.out 1).trans rfl; have hcz68_2 : w67.cell? ⟨gb312, 2, none⟩ = some (.int .i64 0) := (blk_cell BK312.out 2).trans rfl; have hcz68_3 : w67.cell? ⟨gb312, 3, none⟩ = some (.int .i64 0) := (blk_cell BK312.out 3).trans rfl; have hfz68_0 := blk_frozen BK312.out 0; have hfz68_1 := blk_frozen BK312.out 1; have hfz68_2 := blk_frozen BK312.out 2; have hfz68_3 := blk_frozen BK312.out 3) | ((with_reducible refine gate_callee (f := 105) rfl ?_); refine goesL_ (some 34) rfl rfl Try.func105 (by kernel_rfl) rfl #[.int .i64 ((rd_T73 l0 x26_2).f0)] rfl (by (try simp only [List.map_toArray, List.map_cons, List.map_nil]); first | done | rfl | (simp only [List.length_drop, List.length_take]; rfl)) ?_; (with_reducible refine (impl_parts.calls k2 ((rd_T73 l0 x26_2).f0) t313 t314 t315 _ A15.out).mono ?_); rintro e w' ⟨rfl, ⟨nd, rfl⟩⟩; refine ⟨_, rfl, ?_⟩) | ((with_reducible refine gate_callee (f := 62) rfl ?_); refine goesL_ (some 40) rfl rfl Try.func62 (by kernel_rfl) rfl #[.int .i64 ((rd_T73 l0 x26_2).f0), .int .i64 0, .int .i64 9] rfl (by (try simp only [List.map_toArray, List.map_cons, List.map_nil]); first | done | rfl | (simp only [List.length_drop, List.length_take]; rfl)) ?_; (with_reducible refine (impl_in.calls ((rd_T73 l0 x26_2).f0) 0 9 true _ A16.out).mono ?_); rintro e w' ⟨rfl, ⟨nd, rfl⟩⟩; refine ⟨_, rfl, ?_⟩) | (go_at_call 62; (with_reducible refine (impl_in.calls ((rd_T73 l0 x26_2).f2) 0 (wrap64 (x26_2 - 1)) true _ A49.out).mono ?_); rintro e w' ⟨rfl, ⟨nd, rfl⟩⟩) | (go_at_call 62; (with_reducible refine (impl_in.calls ((rd_T73 l0 x26_2).f3) 0 (wrap64 (x26_2 - 1)) true _ A51.out).mono ?_); rintro e w' ⟨rfl, ⟨nd, rfl⟩⟩; obtain ⟨Ao69, co69, eo69⟩ := Kd.R_slice HO_5.out; subst eo69; have p327 : 0 ≤ (((rd_T73 l0 x26_2).f2) : Int) := of_decide_eq_true (by first | (with_reducible assumption) | assumption); have q327 : ((rd_T73 l0 x26_2).f2) < (x5_2.length : Int) := of_decide_eq_true (by first | (with_reducible assumption) | assumption); obtain ⟨ad327, e327, hx327_0⟩ := Kd.at_int (Kd.R_reads' HO_5.out).2.2 ((rd_T73 l0 x26_2).f2) p327 q327; cases e327; have hn327_0 : ad327.block ≠ gb312 := Kd.own_blk (Kd.R_ne HO_5.out BK312.out (by decide)); have hn327_1 : ad327.block ≠ gb312 := Kd.own_blk (Kd.R_ne HO_5.out BK312.out (by decide)); have hn327_2 : ad327.block ≠ gb312 := Kd.own_blk (Kd.R_ne HO_5.out BK312.out (by decide)); have hn327_3 : ad327.block ≠ gb312 := Kd.own_blk (Kd.R_ne HO_5.out BK312.out (by decide)); replace hx327_0 := (cell_far (p := ⟨gb312, 0, none⟩) (by first | (rw [add_block]; exact hn327_0) | (show (Addr.add _ _).block ≠ _; rw [add_block]; exact hn327_0) | exact hn327_0) (.int .i64 ((rd_T73 l0 x26_2).f0))).trans hx327_0; replace hx327_0 := (cell_far (p := ⟨gb312, 1, none⟩) (by first | (rw [add_block]; exact hn327_1) | (show (Addr.add _ _).block ≠ _; rw [add_block]; exact hn327_1) | exact hn327_1) (.int .i64 ((rd_T73 l0 x26_2).f1))).trans hx327_0; replace hx327_0 := (cell_far (p := ⟨gb312, 2, none⟩) (by first | (rw [add_block]; exact hn327_2) | (show (Addr.add _ _).block ≠ _; rw [add_block]; exact hn327_2) | exact hn327_2) (.int .i64 ((rd_T73 l0 x26_2).f2))).trans hx327_0; replace hx327_0 := (cell_far (p := ⟨gb312, 3, none⟩) (by first | (rw [add_block]; exact hn327_3) | (show (Addr.add _ _).block ≠ _; rw [add_block]; exact hn327_3) | exact hn327_3) (.int .i64 ((rd_T73 l0 x26_2).f3))).trans hx327_0; clear hn327_0; clear hn327_1; clear hn327_2; clear hn327_3; replace p327 := eq_true p327; replace q327 := eq_true q327; have p328 : 0 ≤ (((rd_T73 l0 x26_2).f3) : Int) := of_decide_eq_true (by first | (with_reducible assumption) | assumption); have q328 : ((rd_T73 l0 x26_2).f3) < (x5_2.length : Int) := of_decide_eq_true (by first | (with_reducible assumption) | assumption); obtain ⟨ad328, e328, hx328_0⟩ := Kd.at_int (Kd.R_reads' HO_5.out).2.2 ((rd_T73 l0 x26_2).f3) p328 q328; obtain rfl : ad327 = ad328 := (by injection e328); have hn328_0 : ad327.block ≠ gb312 := Kd.own_blk (Kd.R_ne HO_5.out BK312.out (by decide)); have hn328_1 : ad327.block ≠ gb312 := Kd.own_blk (Kd.R_ne HO_5.out BK312.out (by decide)); have hn328_2 : ad327.block ≠ gb312 := Kd.own_blk (Kd.R_ne HO_5.out BK312.out (by decide)); have hn328_3 : ad327.block ≠ gb312 := Kd.own_blk (Kd.R_ne HO_5.out BK312.out (by decide)); replace hx328_0 := (cell_far (p := ⟨gb312, 0, none⟩) (by first | (rw [add_block]; exact hn328_0) | (show (Addr.add _ _).block ≠ _; rw [add_block]; exact hn328_0) | exact hn328_0) (.int .i64 ((rd_T73 l0 x26_2).f0))).trans hx328_0; replace hx328_0 := (cell_far (p := ⟨gb312, 1, none⟩) (by first | (rw [add_block]; exact hn328_1) | (show (Addr.add _ _).block ≠ _; rw [add_block]; exact hn328_1) | exact hn328_1) (.int .i64 ((rd_T73 l0 x26_2).f1))).trans hx328_0; replace hx328_0 := (cell_far (p := ⟨gb312, 2, none⟩) (by first | (rw [add_block]; exact hn328_2) | (show (Addr.add _ _).block ≠ _; rw [add_block]; exact hn328_2) | exact hn328_2) (.int .i64 ((rd_T73 l0 x26_2).f2))).trans hx328_0; replace hx328_0 := (cell_far (p := ⟨gb312, 3, none⟩) (by first | (rw [add_block]; exact hn328_3) | (show (Addr.add _ _).block ≠ _; rw [add_block]; exact hn328_3) | exact hn328_3) (.int .i64 ((rd_T73 l0 x26_2).f3))).trans hx328_0; clear hn328_0; clear hn328_1; clear hn328_2; clear hn328_3; replace p328 := eq_true p328; replace q328 := eq_true q328) | ((with_reducible refine gate_builtin (b := .append) (xs := #[.tmp 127, .tmp 129]) rfl ?_); (try (refine gate_guard (by rfl) ?_; dsimp only)); at_builtin; refine Kd.R_append (Kd.int .i64) (w0 := w) w.heap.size rfl (.tmp 127) (.tmp 129) 23 3 (.int .i64 0) 8 rfl Try.underlying23 info3 rfl (by decide) (by omega) (.slice (some ad327) x5_2.length co69) x5_2 t315 [.int .i64 t315] (fun _ => True) (fun _ => False) rfl (by first | (go_simp; done) | (go_simp; rfl)) ?aP (fun _ hk => hk.elim) ?aF ?aO ?aB ?aS ?aL ?_; (case aP => exact rfl); (case aB => exact (by repeat (first | (with_reducible first | exact HB.out | apply bwA | apply bwN | apply bwD | refine below_set ?_ GE312.out) | exact HB.out))); (case aF => exact (fun _ _ => trivial)); (case aO => exact (by (with_reducible repeat (first | apply Kd.R_alloc | apply Kd.R_drewN | apply Kd.R_drew)); exact Kd.R_mono (Kd.R_far (p := ⟨gb312, 3, none⟩) (Kd.R_far (p := ⟨gb312, 2, none⟩) (Kd.R_far (p := ⟨gb312, 1, none⟩) (Kd.R_far (p := ⟨gb312, 0, none⟩) (Kd.R_types HO_5.out BK312.out (by decide)) (fun _ hk => hk.2) (.int .i64 ((rd_T73 l0 x26_2).f0))) (fun _ hk => hk.2) (.int .i64 ((rd_T73 l0 x26_2).f1))) (fun _ hk => hk.2) (.int .i64 ((rd_T73 l0 x26_2).f2))) (fun _ hk => hk.2) (.int .i64 ((rd_T73 l0 x26_2).f3))) (fun _ hk => trivial))); (case aS => exact (below_size (by repeat (first | (with_reducible first | exact HB.out | apply bwA | apply bwN | apply bwD | refine below_set ?_ GE312.out) | exact HB.out)))); (case aL => have := LMc66.out; omega); intro v333 w70 ho hb hg hat; rw [← Ny332.out] at ho; have n0_ := Aside0.mk (blk_grown (g := gb312) (o := .cells #[.int .i64 ((rd_T73 l0 x26_2).f0), .int .i64 ((rd_T73 l0 x26_2).f1), .int .i64 ((rd_T73 l0 x26_2).f2), .int .i64 ((rd_T73 l0 x26_2).f3)] 73 (0, 0)) (by (with_reducible repeat (first | refine blk_drewN ?_ _ | refine blk_drew ?_ | refine blk_alloc ?_ _)); refine blk_put (cs := #[.int .i64 ((rd_T73 l0 x26_2).f0), .int .i64 ((rd_T73 l0 x26_2).f1), .int .i64 ((rd_T73 l0 x26_2).f2), .int .i64 0]) ?_ 3 _ rfl; (with_reducible repeat (first | refine blk_drewN ?_ _ | refine blk_drew ?_ | refine blk_alloc ?_ _)); refine blk_put (cs := #[.int .i64 ((rd_T73 l0 x26_2).f0), .int .i64 ((rd_T73 l0 x26_2).f1), .int .i64 0, .int .i64 0]) ?_ 2 _ rfl; (with_reducible repeat (first | refine blk_drewN ?_ _ | refine blk_drew ?_ | refine blk_alloc ?_ _)); refine blk_put (cs := #[.int .i64 ((rd_T73 l0 x26_2).f0), .int .i64 0, .int .i64 0, .int .i64 0]) ?_ 1 _ rfl; (with_reducible repeat (first | refine blk_drewN ?_ _ | refine blk_drew ?_ | refine blk_alloc ?_ _)); refine blk_put (cs := #[.int .i64 0, .int .i64 0, .int .i64 0, .int .i64 0]) ?_ 0 _ rfl; (with_reducible repeat (first | refine blk_drewN ?_ _ | refine blk_drew ?_ | refine blk_alloc ?_ _)); exact BK312.out) hg (Kd.R_ne HO_5.out BK312.out (by decide))); have n1_ := Aside0.mk (hb); have n2_ := Aside0.mk (ho); clear BK312; clear HB; clear HO_5; have BK312 := n0_; have HB := n1_; have HO334 := n2_; clear n0_ n1_ n2_; clear ho hb hg hat))
                          go_roundg k2
                          case measure => have := HJ2.out; have := HK2.out; omega
                          case rel => exact ⟨(y332), (wrap64 (x26_2 + 1)), (by first | rfl | (simp; done) | (simp [*]; done)), H', ⟨by have := HJ2.out; have := HK2.out; omega⟩, ⟨by (with_reducible repeat (first | apply Kd.R_alloc | apply Kd.R_drewN | apply Kd.R_drew)); exact HO334.out⟩, ⟨by repeat (first | (with_reducible first | exact HB.out | apply bwA | apply bwN | apply bwD | refine below_set ?_ GE312.out) | exact HB.out)⟩, ⟨by have e1_ := HL_.out; have e2_ : 0 ≤ x26_2 := of_decide_eq_true (by first | (with_reducible assumption) | assumption); rw [Ny332.out, List.length_append, List.length_singleton]; unfold wrap64; omega⟩⟩
                         ·rw [if_neg c66] at H
                          exact absurd H (by simp)
                        ·rw [if_neg c65] at H
                         have c65b0 : (((rd_T73 l0 x26_2).f2) == ((rd_T73 l0 x26_2).f3)) = false := beq_eq_false_iff_ne.mpr c65
                         have c65b1 : (((rd_T73 l0 x26_2).f2) != ((rd_T73 l0 x26_2).f3)) = true := bne_iff_ne.mpr c65
                         obtain rfl := Option.some.inj H
                         have p311 : 0 ≤ (x26_2 : Int) := of_decide_eq_true (by first | (with_reducible assumption) | assumption)
                         have q311 : x26_2 < (l0.length : Int) := of_decide_eq_true (by first | (with_reducible assumption) | assumption)
                         obtain ⟨ad311, e311, hx311_0, hx311_1, hx311_2, hx311_3⟩ := at_T73 HR0.out x26_2 p311 q311
                         cases e311
                         try replace hx311_0 := (HB.out.cell (World.block_lt_of_cell? w _ hx311_0)).trans hx311_0
                         try replace hx311_1 := (HB.out.cell (World.block_lt_of_cell? w _ hx311_1)).trans hx311_1
                         try replace hx311_2 := (HB.out.cell (World.block_lt_of_cell? w _ hx311_2)).trans hx311_2
                         try replace hx311_3 := (HB.out.cell (World.block_lt_of_cell? w _ hx311_3)).trans hx311_3
                         replace p311 := eq_true p311
                         replace q311 := eq_true q311
                         go_wp2_with (first | ((with_reducible refine gate_dst (N := 7) rfl ?_); (try (refine gate_guard (by rfl) ?_; dsimp only)); refine box_event ?hg (N := 7) ?hd (cs := #[.int .i64 0, .int .i64 0, .int .i64 0, .int .i64 0]) (t := 73) ?hr ?_; (case hd => rfl); (case hg => rfl); (case hr => first | (go_simp; done) | (go_simp; rfl)); intro gb312 hg w71 hbox hb; have n0_ := Aside0.mk (Kd.R_below (by (with_reducible repeat (first | apply Kd.R_alloc | apply Kd.R_drewN | apply Kd.R_drew)); exact HO_5.out) hb); have n1_ := Aside0.mk (below_step (by repeat (first | (with_reducible first | exact HB.out | apply bwA | apply bwN | apply bwD) | exact HB.out)) hb); have n2_ := Aside0.mk (hbox); have n3_ := Aside0.mk ((by rw [hg]; exact (below_size (by repeat (first | (with_reducible first | exact HB.out | apply bwA | apply bwN | apply bwD) | exact HB.out))) : w.heap.size ≤ gb312)); have n4_ := Aside0.mk ((by rw [hg]; exact (below_size (by repeat (first | (with_reducible first | exact HB.out | apply bwA | apply bwN | apply bwD) | exact HB.out))) : w.heap.size ≤ gb312)); clear HO_5; clear HB; have HO_5 := n0_; have HB := n1_; have BK312 := n2_; have GW312 := n3_; have GE312 := n4_; clear n0_ n1_ n2_ n3_ n4_; clear hb hbox hg; have hcz72_0 : w71.cell? ⟨gb312, 0, none⟩ = some (.int .i64 0) := (blk_cell BK312.out 0).trans rfl; have hcz72_1 : w71.cell? ⟨gb312, 1, none⟩ = some (.int .i64 0) := (blk_cell BK312.out 1).trans rfl; have hcz72_2 : w71.cell? ⟨gb312, 2, none⟩ = some (.int .i64 0) := (blk_cell BK312.out 2).trans rfl; have hcz72_3 : w71.cell? ⟨gb312, 3, none⟩ = some (.int .i64 0) := (blk_cell BK312.out 3).trans rfl; have hfz72_0 := blk_frozen BK312.out 0; have hfz72_1 := blk_frozen BK312.out 1; have hfz72_2 := blk_frozen BK312.out 2; have hfz72_3 := blk_frozen BK312.out 3) | ((with_reducible refine gate_callee (f := 105) rfl ?_); refine goesL_ (some 34) rfl rfl Try.func105 (by kernel_rfl) rfl #[.int .i64 ((rd_T73 l0 x26_2).f0)] rfl (by (try simp only [List.map_toArray, List.map_cons, List.map_nil]); first | done | rfl | (simp only [List.length_drop, List.length_take]; rfl)) ?_; (with_reducible refine (impl_parts.calls k2 ((rd_T73 l0 x26_2).f0) t313 t314 t315 _ A15.out).mono ?_); rintro e w' ⟨rfl, ⟨nd, rfl⟩⟩; refine ⟨_, rfl, ?_⟩) | ((with_reducible refine gate_callee (f := 62) rfl ?_); refine goesL_ (some 40) rfl rfl Try.func62 (by kernel_rfl) rfl #[.int .i64 ((rd_T73 l0 x26_2).f0), .int .i64 0, .int .i64 9] rfl (by (try simp only [List.map_toArray, List.map_cons, List.map_nil]); first | done | rfl | (simp only [List.length_drop, List.length_take]; rfl)) ?_; (with_reducible refine (impl_in.calls ((rd_T73 l0 x26_2).f0) 0 9 true _ A16.out).mono ?_); rintro e w' ⟨rfl, ⟨nd, rfl⟩⟩; refine ⟨_, rfl, ?_⟩) | (go_at_call 62; (with_reducible refine (impl_in.calls ((rd_T73 l0 x26_2).f2) 0 (wrap64 (x26_2 - 1)) true _ A49.out).mono ?_); rintro e w' ⟨rfl, ⟨nd, rfl⟩⟩) | (go_at_call 62; (with_reducible refine (impl_in.calls ((rd_T73 l0 x26_2).f3) 0 (wrap64 (x26_2 - 1)) true _ A51.out).mono ?_); rintro e w' ⟨rfl, ⟨nd, rfl⟩⟩; obtain ⟨Ao73, co73, eo73⟩ := Kd.R_slice HO_5.out; subst eo73; have p327 : 0 ≤ (((rd_T73 l0 x26_2).f2) : Int) := of_decide_eq_true (by first | (with_reducible assumption) | assumption); have q327 : ((rd_T73 l0 x26_2).f2) < (x5_2.length : Int) := of_decide_eq_true (by first | (with_reducible assumption) | assumption); obtain ⟨ad327, e327, hx327_0⟩ := Kd.at_int (Kd.R_reads' HO_5.out).2.2 ((rd_T73 l0 x26_2).f2) p327 q327; cases e327; have hn327_0 : ad327.block ≠ gb312 := Kd.own_blk (Kd.R_ne HO_5.out BK312.out (by decide)); have hn327_1 : ad327.block ≠ gb312 := Kd.own_blk (Kd.R_ne HO_5.out BK312.out (by decide)); have hn327_2 : ad327.block ≠ gb312 := Kd.own_blk (Kd.R_ne HO_5.out BK312.out (by decide)); have hn327_3 : ad327.block ≠ gb312 := Kd.own_blk (Kd.R_ne HO_5.out BK312.out (by decide)); replace hx327_0 := (cell_far (p := ⟨gb312, 0, none⟩) (by first | (rw [add_block]; exact hn327_0) | (show (Addr.add _ _).block ≠ _; rw [add_block]; exact hn327_0) | exact hn327_0) (.int .i64 ((rd_T73 l0 x26_2).f0))).trans hx327_0; replace hx327_0 := (cell_far (p := ⟨gb312, 1, none⟩) (by first | (rw [add_block]; exact hn327_1) | (show (Addr.add _ _).block ≠ _; rw [add_block]; exact hn327_1) | exact hn327_1) (.int .i64 ((rd_T73 l0 x26_2).f1))).trans hx327_0; replace hx327_0 := (cell_far (p := ⟨gb312, 2, none⟩) (by first | (rw [add_block]; exact hn327_2) | (show (Addr.add _ _).block ≠ _; rw [add_block]; exact hn327_2) | exact hn327_2) (.int .i64 ((rd_T73 l0 x26_2).f2))).trans hx327_0; replace hx327_0 := (cell_far (p := ⟨gb312, 3, none⟩) (by first | (rw [add_block]; exact hn327_3) | (show (Addr.add _ _).block ≠ _; rw [add_block]; exact hn327_3) | exact hn327_3) (.int .i64 ((rd_T73 l0 x26_2).f3))).trans hx327_0; clear hn327_0; clear hn327_1; clear hn327_2; clear hn327_3; replace p327 := eq_true p327; replace q327 := eq_true q327; have p328 : 0 ≤ (((rd_T73 l0 x26_2).f3) : Int) := of_decide_eq_true (by first | (with_reducible assumption) | assumption); have q328 : ((rd_T73 l0 x26_2).f3) < (x5_2.length : Int) := of_decide_eq_true (by first | (with_reducible assumption) | assumption); obtain ⟨ad328, e328, hx328_0⟩ := Kd.at_int (Kd.R_reads' HO_5.out).2.2 ((rd_T73 l0 x26_2).f3) p328 q328; obtain rfl : ad327 = ad328 := (by injection e328); have hn328_0 : ad327.block ≠ gb312 := Kd.own_blk (Kd.R_ne HO_5.out BK312.out (by decide)); have hn328_1 : ad327.block ≠ gb312 := Kd.own_blk (Kd.R_ne HO_5.out BK312.out (by decide)); have hn328_2 : ad327.block ≠ gb312 := Kd.own_blk (Kd.R_ne HO_5.out BK312.out (by decide)); have hn328_3 : ad327.block ≠ gb312 := Kd.own_blk (Kd.R_ne HO_5.out BK312.out (by decide)); replace hx328_0 := (cell_far (p := ⟨gb312, 0, none⟩) (by first | (rw [add_block]; exact hn328_0) | (show (Addr.add _ _).block ≠ _; rw [add_block]; exact hn328_0) | exact hn328_0) (.int .i64 ((rd_T73 l0 x26_2).f0))).trans hx328_0; replace hx328_0 := (cell_far (p := ⟨gb312, 1, none⟩) (by first | (rw [add_block]; exact hn328_1) | (show (Addr.add _ _).block ≠ _; rw [add_block]; exact hn328_1) | exact hn328_1) (.int .i64 ((rd_T73 l0 x26_2).f1))).trans hx328_0; replace hx328_0 := (cell_far (p := ⟨gb312, 2, none⟩) (by first | (rw [add_block]; exact hn328_2) | (show (Addr.add _ _).block ≠ _; rw [add_block]; exact hn328_2) | exact hn328_2) (.int .i64 ((rd_T73 l0 x26_2).f2))).trans hx328_0; replace hx328_0 := (cell_far (p := ⟨gb312, 3, none⟩) (by first | (rw [add_block]; exact hn328_3) | (show (Addr.add _ _).block ≠ _; rw [add_block]; exact hn328_3) | exact hn328_3) (.int .i64 ((rd_T73 l0 x26_2).f3))).trans hx328_0; clear hn328_0; clear hn328_1; clear hn328_2; clear hn328_3; replace p328 := eq_true p328; replace q328 := eq_true q328))
                         go_ret
                         exact ⟨_, by first | rfl | (simp [errW_none, errW_some] <;> rfl) | (simp [*, errW_none, errW_some] <;> rfl), by first | exact Kd.R_nil _ _ _ _ _ | exact Kd.N_nil _ _ _ _ _ | exact Kd.V_nil _ _ _ _ _ | exact Kd.Q_nil _ _ _ _ _ | exact Kd.S_nil _ _ _ _ _, by repeat (first | (with_reducible first | exact HB.out | apply bwA | apply bwN | apply bwD | refine below_set ?_ GE312.out) | exact HB.out), by (try intro _); rfl⟩
                      ·rw [if_neg c58] at H
                       have c58b0 : ((rd x5_2 ((rd_T73 l0 x26_2).f3)) == t314) = false := beq_eq_false_iff_ne.mpr c58
                       have c58b1 : ((rd x5_2 ((rd_T73 l0 x26_2).f3)) != t314) = true := bne_iff_ne.mpr c58
                       obtain rfl := Option.some.inj H
                       have p311 : 0 ≤ (x26_2 : Int) := of_decide_eq_true (by first | (with_reducible assumption) | assumption)
                       have q311 : x26_2 < (l0.length : Int) := of_decide_eq_true (by first | (with_reducible assumption) | assumption)
                       obtain ⟨ad311, e311, hx311_0, hx311_1, hx311_2, hx311_3⟩ := at_T73 HR0.out x26_2 p311 q311
                       cases e311
                       try replace hx311_0 := (HB.out.cell (World.block_lt_of_cell? w _ hx311_0)).trans hx311_0
                       try replace hx311_1 := (HB.out.cell (World.block_lt_of_cell? w _ hx311_1)).trans hx311_1
                       try replace hx311_2 := (HB.out.cell (World.block_lt_of_cell? w _ hx311_2)).trans hx311_2
                       try replace hx311_3 := (HB.out.cell (World.block_lt_of_cell? w _ hx311_3)).trans hx311_3
                       replace p311 := eq_true p311
                       replace q311 := eq_true q311
                       go_wp2_with (first | ((with_reducible refine gate_dst (N := 7) rfl ?_); (try (refine gate_guard (by rfl) ?_; dsimp only)); refine box_event ?hg (N := 7) ?hd (cs := #[.int .i64 0, .int .i64 0, .int .i64 0, .int .i64 0]) (t := 73) ?hr ?_; (case hd => rfl); (case hg => rfl); (case hr => first | (go_simp; done) | (go_simp; rfl)); intro gb312 hg w74 hbox hb; have n0_ := Aside0.mk (Kd.R_below (by (with_reducible repeat (first | apply Kd.R_alloc | apply Kd.R_drewN | apply Kd.R_drew)); exact HO_5.out) hb); have n1_ := Aside0.mk (below_step (by repeat (first | (with_reducible first | exact HB.out | apply bwA | apply bwN | apply bwD) | exact HB.out)) hb); have n2_ := Aside0.mk (hbox); have n3_ := Aside0.mk ((by rw [hg]; exact (below_size (by repeat (first | (with_reducible first | exact HB.out | apply bwA | apply bwN | apply bwD) | exact HB.out))) : w.heap.size ≤ gb312)); have n4_ := Aside0.mk ((by rw [hg]; exact (below_size (by repeat (first | (with_reducible first | exact HB.out | apply bwA | apply bwN | apply bwD) | exact HB.out))) : w.heap.size ≤ gb312)); clear HO_5; clear HB; have HO_5 := n0_; have HB := n1_; have BK312 := n2_; have GW312 := n3_; have GE312 := n4_; clear n0_ n1_ n2_ n3_ n4_; clear hb hbox hg; have hcz75_0 : w74.cell? ⟨gb312, 0, none⟩ = some (.int .i64 0) := (blk_cell BK312.out 0).trans rfl; have hcz75_1 : w74.cell? ⟨gb312, 1, none⟩ = some (.int .i64 0) := (blk_cell BK312.out 1).trans rfl; have hcz75_2 : w74.cell? ⟨gb312, 2, none⟩ = some (.int .i64 0) := (blk_cell BK312.out 2).trans rfl; have hcz75_3 : w74.cell? ⟨gb312, 3, none⟩ = some (.int .i64 0) := (blk_cell BK312.out 3).trans rfl; have hfz75_0 := blk_frozen BK312.out 0; have hfz75_1 := blk_frozen BK312.out 1; have hfz75_2 := blk_frozen BK312.out 2; have hfz75_3 := blk_frozen BK312.out 3) | ((with_reducible refine gate_callee (f := 105) rfl ?_); refine goesL_ (some 34) rfl rfl Try.func105 (by kernel_rfl) rfl #[.int .i64 ((rd_T73 l0 x26_2).f0)] rfl (by (try simp only [List.map_toArray, List.map_cons, List.map_nil]); first | done | rfl | (simp only [List.length_drop, List.length_take]; rfl)) ?_; (with_reducible refine (impl_parts.calls k2 ((rd_T73 l0 x26_2).f0) t313 t314 t315 _ A15.out).mono ?_); rintro e w' ⟨rfl, ⟨nd, rfl⟩⟩; refine ⟨_, rfl, ?_⟩) | ((with_reducible refine gate_callee (f := 62) rfl ?_); refine goesL_ (some 40) rfl rfl Try.func62 (by kernel_rfl) rfl #[.int .i64 ((rd_T73 l0 x26_2).f0), .int .i64 0, .int .i64 9] rfl (by (try simp only [List.map_toArray, List.map_cons, List.map_nil]); first | done | rfl | (simp only [List.length_drop, List.length_take]; rfl)) ?_; (with_reducible refine (impl_in.calls ((rd_T73 l0 x26_2).f0) 0 9 true _ A16.out).mono ?_); rintro e w' ⟨rfl, ⟨nd, rfl⟩⟩; refine ⟨_, rfl, ?_⟩) | (go_at_call 62; (with_reducible refine (impl_in.calls ((rd_T73 l0 x26_2).f2) 0 (wrap64 (x26_2 - 1)) true _ A49.out).mono ?_); rintro e w' ⟨rfl, ⟨nd, rfl⟩⟩) | (go_at_call 62; (with_reducible refine (impl_in.calls ((rd_T73 l0 x26_2).f3) 0 (wrap64 (x26_2 - 1)) true _ A51.out).mono ?_); rintro e w' ⟨rfl, ⟨nd, rfl⟩⟩; obtain ⟨Ao76, co76, eo76⟩ := Kd.R_slice HO_5.out; subst eo76; have p327 : 0 ≤ (((rd_T73 l0 x26_2).f2) : Int) := of_decide_eq_true (by first | (with_reducible assumption) | assumption); have q327 : ((rd_T73 l0 x26_2).f2) < (x5_2.length : Int) := of_decide_eq_true (by first | (with_reducible assumption) | assumption); obtain ⟨ad327, e327, hx327_0⟩ := Kd.at_int (Kd.R_reads' HO_5.out).2.2 ((rd_T73 l0 x26_2).f2) p327 q327; cases e327; have hn327_0 : ad327.block ≠ gb312 := Kd.own_blk (Kd.R_ne HO_5.out BK312.out (by decide)); have hn327_1 : ad327.block ≠ gb312 := Kd.own_blk (Kd.R_ne HO_5.out BK312.out (by decide)); have hn327_2 : ad327.block ≠ gb312 := Kd.own_blk (Kd.R_ne HO_5.out BK312.out (by decide)); have hn327_3 : ad327.block ≠ gb312 := Kd.own_blk (Kd.R_ne HO_5.out BK312.out (by decide)); replace hx327_0 := (cell_far (p := ⟨gb312, 0, none⟩) (by first | (rw [add_block]; exact hn327_0) | (show (Addr.add _ _).block ≠ _; rw [add_block]; exact hn327_0) | exact hn327_0) (.int .i64 ((rd_T73 l0 x26_2).f0))).trans hx327_0; replace hx327_0 := (cell_far (p := ⟨gb312, 1, none⟩) (by first | (rw [add_block]; exact hn327_1) | (show (Addr.add _ _).block ≠ _; rw [add_block]; exact hn327_1) | exact hn327_1) (.int .i64 ((rd_T73 l0 x26_2).f1))).trans hx327_0; replace hx327_0 := (cell_far (p := ⟨gb312, 2, none⟩) (by first | (rw [add_block]; exact hn327_2) | (show (Addr.add _ _).block ≠ _; rw [add_block]; exact hn327_2) | exact hn327_2) (.int .i64 ((rd_T73 l0 x26_2).f2))).trans hx327_0; replace hx327_0 := (cell_far (p := ⟨gb312, 3, none⟩) (by first | (rw [add_block]; exact hn327_3) | (show (Addr.add _ _).block ≠ _; rw [add_block]; exact hn327_3) | exact hn327_3) (.int .i64 ((rd_T73 l0 x26_2).f3))).trans hx327_0; clear hn327_0; clear hn327_1; clear hn327_2; clear hn327_3; replace p327 := eq_true p327; replace q327 := eq_true q327; have p328 : 0 ≤ (((rd_T73 l0 x26_2).f3) : Int) := of_decide_eq_true (by first | (with_reducible assumption) | assumption); have q328 : ((rd_T73 l0 x26_2).f3) < (x5_2.length : Int) := of_decide_eq_true (by first | (with_reducible assumption) | assumption); obtain ⟨ad328, e328, hx328_0⟩ := Kd.at_int (Kd.R_reads' HO_5.out).2.2 ((rd_T73 l0 x26_2).f3) p328 q328; obtain rfl : ad327 = ad328 := (by injection e328); have hn328_0 : ad327.block ≠ gb312 := Kd.own_blk (Kd.R_ne HO_5.out BK312.out (by decide)); have hn328_1 : ad327.block ≠ gb312 := Kd.own_blk (Kd.R_ne HO_5.out BK312.out (by decide)); have hn328_2 : ad327.block ≠ gb312 := Kd.own_blk (Kd.R_ne HO_5.out BK312.out (by decide)); have hn328_3 : ad327.block ≠ gb312 := Kd.own_blk (Kd.R_ne HO_5.out BK312.out (by decide)); replace hx328_0 := (cell_far (p := ⟨gb312, 0, none⟩) (by first | (rw [add_block]; exact hn328_0) | (show (Addr.add _ _).block ≠ _; rw [add_block]; exact hn328_0) | exact hn328_0) (.int .i64 ((rd_T73 l0 x26_2).f0))).trans hx328_0; replace hx328_0 := (cell_far (p := ⟨gb312, 1, none⟩) (by first | (rw [add_block]; exact hn328_1) | (show (Addr.add _ _).block ≠ _; rw [add_block]; exact hn328_1) | exact hn328_1) (.int .i64 ((rd_T73 l0 x26_2).f1))).trans hx328_0; replace hx328_0 := (cell_far (p := ⟨gb312, 2, none⟩) (by first | (rw [add_block]; exact hn328_2) | (show (Addr.add _ _).block ≠ _; rw [add_block]; exact hn328_2) | exact hn328_2) (.int .i64 ((rd_T73 l0 x26_2).f2))).trans hx328_0; replace hx328_0 := (cell_far (p := ⟨gb312, 3, none⟩) (by first | (rw [add_block]; exact hn328_3) | (show (Addr.add _ _).block ≠ _; rw [add_block]; exact hn328_3) | exact hn328_3) (.int .i64 ((rd_T73 l0 x26_2).f3))).trans hx328_0; clear hn328_0; clear hn328_1; clear hn328_2; clear hn328_3; replace p328 := eq_true p328; replace q328 := eq_true q328))
                       go_ret
                       exact ⟨_, by first | rfl | (simp [errW_none, errW_some] <;> rfl) | (simp [*, errW_none, errW_some] <;> rfl), by first | exact Kd.R_nil _ _ _ _ _ | exact Kd.N_nil _ _ _ _ _ | exact Kd.V_nil _ _ _ _ _ | exact Kd.Q_nil _ _ _ _ _ | exact Kd.S_nil _ _ _ _ _, by repeat (first | (with_reducible first | exact HB.out | apply bwA | apply bwN | apply bwD | refine below_set ?_ GE312.out) | exact HB.out), by (try intro _); rfl⟩
                     ·rw [if_neg c57] at H
                      exact absurd H (by simp)
                    ·rw [if_neg c56] at H
                     exact absurd H (by simp)
                   ·rw [if_neg c55] at H
                    have c55b0 : ((rd x5_2 ((rd_T73 l0 x26_2).f2)) == t314) = false := beq_eq_false_iff_ne.mpr c55
                    have c55b1 : ((rd x5_2 ((rd_T73 l0 x26_2).f2)) != t314) = true := bne_iff_ne.mpr c55
                    obtain rfl := Option.some.inj H
                    have p311 : 0 ≤ (x26_2 : Int) := of_decide_eq_true (by first | (with_reducible assumption) | assumption)
                    have q311 : x26_2 < (l0.length : Int) := of_decide_eq_true (by first | (with_reducible assumption) | assumption)
                    obtain ⟨ad311, e311, hx311_0, hx311_1, hx311_2, hx311_3⟩ := at_T73 HR0.out x26_2 p311 q311
                    cases e311
                    try replace hx311_0 := (HB.out.cell (World.block_lt_of_cell? w _ hx311_0)).trans hx311_0
                    try replace hx311_1 := (HB.out.cell (World.block_lt_of_cell? w _ hx311_1)).trans hx311_1
                    try replace hx311_2 := (HB.out.cell (World.block_lt_of_cell? w _ hx311_2)).trans hx311_2
                    try replace hx311_3 := (HB.out.cell (World.block_lt_of_cell? w _ hx311_3)).trans hx311_3
                    replace p311 := eq_true p311
                    replace q311 := eq_true q311
                    go_wp2_with (first | ((with_reducible refine gate_dst (N := 7) rfl ?_); (try (refine gate_guard (by rfl) ?_; dsimp only)); refine box_event ?hg (N := 7) ?hd (cs := #[.int .i64 0, .int .i64 0, .int .i64 0, .int .i64 0]) (t := 73) ?hr ?_; (case hd => rfl); (case hg => rfl); (case hr => first | (go_simp; done) | (go_simp; rfl)); intro gb312 hg w77 hbox hb; have n0_ := Aside0.mk (Kd.R_below (by (with_reducible repeat (first | apply Kd.R_alloc | apply Kd.R_drewN | apply Kd.R_drew)); exact HO_5.out) hb); have n1_ := Aside0.mk (below_step (by repeat (first | (with_reducible first | exact HB.out | apply bwA | apply bwN | apply bwD) | exact HB.out)) hb); have n2_ := Aside0.mk (hbox); have n3_ := Aside0.mk ((by rw [hg]; exact (below_size (by repeat (first | (with_reducible first | exact HB.out | apply bwA | apply bwN | apply bwD) | exact HB.out))) : w.heap.size ≤ gb312)); have n4_ := Aside0.mk ((by rw [hg]; exact (below_size (by repeat (first | (with_reducible first | exact HB.out | apply bwA | apply bwN | apply bwD) | exact HB.out))) : w.heap.size ≤ gb312)); clear HO_5; clear HB; have HO_5 := n0_; have HB := n1_; have BK312 := n2_; have GW312 := n3_; have GE312 := n4_; clear n0_ n1_ n2_ n3_ n4_; clear hb hbox hg; have hcz78_0 : w77.cell? ⟨gb312, 0, none⟩ = some (.int .i64 0) := (blk_cell BK312.out 0).trans rfl; have hcz78_1 : w77.cell? ⟨gb312, 1, none⟩ = some (.int .i64 0) := (blk_cell BK312.out 1).trans rfl; have hcz78_2 : w77.cell? ⟨gb312, 2, none⟩ = some (.int .i64 0) := (blk_cell BK312.out 2).trans rfl; have hcz78_3 : w77.cell? ⟨gb312, 3, none⟩ = some (.int .i64 0) := (blk_cell BK312.out 3).trans rfl; have hfz78_0 := blk_frozen BK312.out 0; have hfz78_1 := blk_frozen BK312.out 1; have hfz78_2 := blk_frozen BK312.out 2; have hfz78_3 := blk_frozen BK312.out 3) | ((with_reducible refine gate_callee (f := 105) rfl ?_); refine goesL_ (some 34) rfl rfl Try.func105 (by kernel_rfl) rfl #[.int .i64 ((rd_T73 l0 x26_2).f0)] rfl (by (try simp only [List.map_toArray, List.map_cons, List.map_nil]); first | done | rfl | (simp only [List.length_drop, List.length_take]; rfl)) ?_; (with_reducible refine (impl_parts.calls k2 ((rd_T73 l0 x26_2).f0) t313 t314 t315 _ A15.out).mono ?_); rintro e w' ⟨rfl, ⟨nd, rfl⟩⟩; refine ⟨_, rfl, ?_⟩) | ((with_reducible refine gate_callee (f := 62) rfl ?_); refine goesL_ (some 40) rfl rfl Try.func62 (by kernel_rfl) rfl #[.int .i64 ((rd_T73 l0 x26_2).f0), .int .i64 0, .int .i64 9] rfl (by (try simp only [List.map_toArray, List.map_cons, List.map_nil]); first | done | rfl | (simp only [List.length_drop, List.length_take]; rfl)) ?_; (with_reducible refine (impl_in.calls ((rd_T73 l0 x26_2).f0) 0 9 true _ A16.out).mono ?_); rintro e w' ⟨rfl, ⟨nd, rfl⟩⟩; refine ⟨_, rfl, ?_⟩) | (go_at_call 62; (with_reducible refine (impl_in.calls ((rd_T73 l0 x26_2).f2) 0 (wrap64 (x26_2 - 1)) true _ A49.out).mono ?_); rintro e w' ⟨rfl, ⟨nd, rfl⟩⟩) | (go_at_call 62; (with_reducible refine (impl_in.calls ((rd_T73 l0 x26_2).f3) 0 (wrap64 (x26_2 - 1)) true _ A51.out).mono ?_); rintro e w' ⟨rfl, ⟨nd, rfl⟩⟩; obtain ⟨Ao79, co79, eo79⟩ := Kd.R_slice HO_5.out; subst eo79; have p327 : 0 ≤ (((rd_T73 l0 x26_2).f2) : Int) := of_decide_eq_true (by first | (with_reducible assumption) | assumption); have q327 : ((rd_T73 l0 x26_2).f2) < (x5_2.length : Int) := of_decide_eq_true (by first | (with_reducible assumption) | assumption); obtain ⟨ad327, e327, hx327_0⟩ := Kd.at_int (Kd.R_reads' HO_5.out).2.2 ((rd_T73 l0 x26_2).f2) p327 q327; cases e327; have hn327_0 : ad327.block ≠ gb312 := Kd.own_blk (Kd.R_ne HO_5.out BK312.out (by decide)); have hn327_1 : ad327.block ≠ gb312 := Kd.own_blk (Kd.R_ne HO_5.out BK312.out (by decide)); have hn327_2 : ad327.block ≠ gb312 := Kd.own_blk (Kd.R_ne HO_5.out BK312.out (by decide)); have hn327_3 : ad327.block ≠ gb312 := Kd.own_blk (Kd.R_ne HO_5.out BK312.out (by decide)); replace hx327_0 := (cell_far (p := ⟨gb312, 0, none⟩) (by first | (rw [add_block]; exact hn327_0) | (show (Addr.add _ _).block ≠ _; rw [add_block]; exact hn327_0) | exact hn327_0) (.int .i64 ((rd_T73 l0 x26_2).f0))).trans hx327_0; replace hx327_0 := (cell_far (p := ⟨gb312, 1, none⟩) (by first | (rw [add_block]; exact hn327_1) | (show (Addr.add _ _).block ≠ _; rw [add_block]; exact hn327_1) | exact hn327_1) (.int .i64 ((rd_T73 l0 x26_2).f1))).trans hx327_0; replace hx327_0 := (cell_far (p := ⟨gb312, 2, none⟩) (by first | (rw [add_block]; exact hn327_2) | (show (Addr.add _ _).block ≠ _; rw [add_block]; exact hn327_2) | exact hn327_2) (.int .i64 ((rd_T73 l0 x26_2).f2))).trans hx327_0; replace hx327_0 := (cell_far (p := ⟨gb312, 3, none⟩) (by first | (rw [add_block]; exact hn327_3) | (show (Addr.add _ _).block ≠ _; rw [add_block]; exact hn327_3) | exact hn327_3) (.int .i64 ((rd_T73 l0 x26_2).f3))).trans hx327_0; clear hn327_0; clear hn327_1; clear hn327_2; clear hn327_3; replace p327 := eq_true p327; replace q327 := eq_true q327))
                    go_ret
                    exact ⟨_, by first | rfl | (simp [errW_none, errW_some] <;> rfl) | (simp [*, errW_none, errW_some] <;> rfl), by first | exact Kd.R_nil _ _ _ _ _ | exact Kd.N_nil _ _ _ _ _ | exact Kd.V_nil _ _ _ _ _ | exact Kd.Q_nil _ _ _ _ _ | exact Kd.S_nil _ _ _ _ _, by repeat (first | (with_reducible first | exact HB.out | apply bwA | apply bwN | apply bwD | refine below_set ?_ GE312.out) | exact HB.out), by (try intro _); rfl⟩
                  ·rw [if_neg c54] at H
                   exact absurd H (by simp)
                 ·rw [if_neg c53] at H
                  exact absurd H (by simp)
                ·replace c52 := Bool.eq_false_iff.mpr c52
                 subst c52
                 have H1 : (some ([] : List Int)) = some r := by rw [if_neg (show ¬ (false = true) by decide)] at H; exact H
                 clear H
                 have H := H1
                 clear H1
                 obtain rfl := Option.some.inj H
                 have p311 : 0 ≤ (x26_2 : Int) := of_decide_eq_true (by first | (with_reducible assumption) | assumption)
                 have q311 : x26_2 < (l0.length : Int) := of_decide_eq_true (by first | (with_reducible assumption) | assumption)
                 obtain ⟨ad311, e311, hx311_0, hx311_1, hx311_2, hx311_3⟩ := at_T73 HR0.out x26_2 p311 q311
                 cases e311
                 try replace hx311_0 := (HB.out.cell (World.block_lt_of_cell? w _ hx311_0)).trans hx311_0
                 try replace hx311_1 := (HB.out.cell (World.block_lt_of_cell? w _ hx311_1)).trans hx311_1
                 try replace hx311_2 := (HB.out.cell (World.block_lt_of_cell? w _ hx311_2)).trans hx311_2
                 try replace hx311_3 := (HB.out.cell (World.block_lt_of_cell? w _ hx311_3)).trans hx311_3
                 replace p311 := eq_true p311
                 replace q311 := eq_true q311
                 go_wp2_with (first | ((with_reducible refine gate_dst (N := 7) rfl ?_); (try (refine gate_guard (by rfl) ?_; dsimp only)); refine box_event ?hg (N := 7) ?hd (cs := #[.int .i64 0, .int .i64 0, .int .i64 0, .int .i64 0]) (t := 73) ?hr ?_; (case hd => rfl); (case hg => rfl); (case hr => first | (go_simp; done) | (go_simp; rfl)); intro gb312 hg w80 hbox hb; have n0_ := Aside0.mk (Kd.R_below (by (with_reducible repeat (first | apply Kd.R_alloc | apply Kd.R_drewN | apply Kd.R_drew)); exact HO_5.out) hb); have n1_ := Aside0.mk (below_step (by repeat (first | (with_reducible first | exact HB.out | apply bwA | apply bwN | apply bwD) | exact HB.out)) hb); have n2_ := Aside0.mk (hbox); have n3_ := Aside0.mk ((by rw [hg]; exact (below_size (by repeat (first | (with_reducible first | exact HB.out | apply bwA | apply bwN | apply bwD) | exact HB.out))) : w.heap.size ≤ gb312)); have n4_ := Aside0.mk ((by rw [hg]; exact (below_size (by repeat (first | (with_reducible first | exact HB.out | apply bwA | apply bwN | apply bwD) | exact HB.out))) : w.heap.size ≤ gb312)); clear HO_5; clear HB; have HO_5 := n0_; have HB := n1_; have BK312 := n2_; have GW312 := n3_; have GE312 := n4_; clear n0_ n1_ n2_ n3_ n4_; clear hb hbox hg; have hcz81_0 : w80.cell? ⟨gb312, 0, none⟩ = some (.int .i64 0) := (blk_cell BK312.out 0).trans rfl; have hcz81_1 : w80.cell? ⟨gb312, 1, none⟩ = some (.int .i64 0) := (blk_cell BK312.out 1).trans rfl; have hcz81_2 : w80.cell? ⟨gb312, 2, none⟩ = some (.int .i64 0) := (blk_cell BK312.out 2).trans rfl; have hcz81_3 : w80.cell? ⟨gb312, 3, none⟩ = some (.int .i64 0) := (blk_cell BK312.out 3).trans rfl; have hfz81_0 := blk_frozen BK312.out 0; have hfz81_1 := blk_frozen BK312.out 1; have hfz81_2 := blk_frozen BK312.out 2; have hfz81_3 := blk_frozen BK312.out 3) | ((with_reducible refine gate_callee (f := 105) rfl ?_); refine goesL_ (some 34) rfl rfl Try.func105 (by kernel_rfl) rfl #[.int .i64 ((rd_T73 l0 x26_2).f0)] rfl (by (try simp only [List.map_toArray, List.map_cons, List.map_nil]); first | done | rfl | (simp only [List.length_drop, List.length_take]; rfl)) ?_; (with_reducible refine (impl_parts.calls k2 ((rd_T73 l0 x26_2).f0) t313 t314 t315 _ A15.out).mono ?_); rintro e w' ⟨rfl, ⟨nd, rfl⟩⟩; refine ⟨_, rfl, ?_⟩) | ((with_reducible refine gate_callee (f := 62) rfl ?_); refine goesL_ (some 40) rfl rfl Try.func62 (by kernel_rfl) rfl #[.int .i64 ((rd_T73 l0 x26_2).f0), .int .i64 0, .int .i64 9] rfl (by (try simp only [List.map_toArray, List.map_cons, List.map_nil]); first | done | rfl | (simp only [List.length_drop, List.length_take]; rfl)) ?_; (with_reducible refine (impl_in.calls ((rd_T73 l0 x26_2).f0) 0 9 true _ A16.out).mono ?_); rintro e w' ⟨rfl, ⟨nd, rfl⟩⟩; refine ⟨_, rfl, ?_⟩) | (go_at_call 62; (with_reducible refine (impl_in.calls ((rd_T73 l0 x26_2).f2) 0 (wrap64 (x26_2 - 1)) true _ A49.out).mono ?_); rintro e w' ⟨rfl, ⟨nd, rfl⟩⟩) | (go_at_call 62; (with_reducible refine (impl_in.calls ((rd_T73 l0 x26_2).f3) 0 (wrap64 (x26_2 - 1)) false _ A51.out).mono ?_); rintro e w' ⟨rfl, ⟨nd, rfl⟩⟩))
                 go_ret
                 exact ⟨_, by first | rfl | (simp [errW_none, errW_some] <;> rfl) | (simp [*, errW_none, errW_some] <;> rfl), by first | exact Kd.R_nil _ _ _ _ _ | exact Kd.N_nil _ _ _ _ _ | exact Kd.V_nil _ _ _ _ _ | exact Kd.Q_nil _ _ _ _ _ | exact Kd.S_nil _ _ _ _ _, by repeat (first | (with_reducible first | exact HB.out | apply bwA | apply bwN | apply bwD | refine below_set ?_ GE312.out) | exact HB.out), by (try intro _); rfl⟩
               ·replace c50 := Bool.eq_false_iff.mpr c50
                subst c50
                have H1 : (some ([] : List Int)) = some r := by rw [if_neg (show ¬ (false = true) by decide)] at H; exact H
                clear H
                have H := H1
                clear H1
                obtain rfl := Option.some.inj H
                have p311 : 0 ≤ (x26_2 : Int) := of_decide_eq_true (by first | (with_reducible assumption) | assumption)
                have q311 : x26_2 < (l0.length : Int) := of_decide_eq_true (by first | (with_reducible assumption) | assumption)
                obtain ⟨ad311, e311, hx311_0, hx311_1, hx311_2, hx311_3⟩ := at_T73 HR0.out x26_2 p311 q311
                cases e311
                try replace hx311_0 := (HB.out.cell (World.block_lt_of_cell? w _ hx311_0)).trans hx311_0
                try replace hx311_1 := (HB.out.cell (World.block_lt_of_cell? w _ hx311_1)).trans hx311_1
                try replace hx311_2 := (HB.out.cell (World.block_lt_of_cell? w _ hx311_2)).trans hx311_2
                try replace hx311_3 := (HB.out.cell (World.block_lt_of_cell? w _ hx311_3)).trans hx311_3
                replace p311 := eq_true p311
                replace q311 := eq_true q311
                go_wp2_with (first | ((with_reducible refine gate_dst (N := 7) rfl ?_); (try (refine gate_guard (by rfl) ?_; dsimp only)); refine box_event ?hg (N := 7) ?hd (cs := #[.int .i64 0, .int .i64 0, .int .i64 0, .int .i64 0]) (t := 73) ?hr ?_; (case hd => rfl); (case hg => rfl); (case hr => first | (go_simp; done) | (go_simp; rfl)); intro gb312 hg w82 hbox hb; have n0_ := Aside0.mk (Kd.R_below (by (with_reducible repeat (first | apply Kd.R_alloc | apply Kd.R_drewN | apply Kd.R_drew)); exact HO_5.out) hb); have n1_ := Aside0.mk (below_step (by repeat (first | (with_reducible first | exact HB.out | apply bwA | apply bwN | apply bwD) | exact HB.out)) hb); have n2_ := Aside0.mk (hbox); have n3_ := Aside0.mk ((by rw [hg]; exact (below_size (by repeat (first | (with_reducible first | exact HB.out | apply bwA | apply bwN | apply bwD) | exact HB.out))) : w.heap.size ≤ gb312)); have n4_ := Aside0.mk ((by rw [hg]; exact (below_size (by repeat (first | (with_reducible first | exact HB.out | apply bwA | apply bwN | apply bwD) | exact HB.out))) : w.heap.size ≤ gb312)); clear HO_5; clear HB; have HO_5 := n0_; have HB := n1_; have BK312 := n2_; have GW312 := n3_; have GE312 := n4_; clear n0_ n1_ n2_ n3_ n4_; clear hb hbox hg; have hcz83_0 : w82.cell? ⟨gb312, 0, none⟩ = some (.int .i64 0) := (blk_cell BK312.out 0).trans rfl; have hcz83_1 : w82.cell? ⟨gb312, 1, none⟩ = some (.int .i64 0) := (blk_cell BK312.out 1).trans rfl; have hcz83_2 : w82.cell? ⟨gb312, 2, none⟩ = some (.int .i64 0) := (blk_cell BK312.out 2).trans rfl; have hcz83_3 : w82.cell? ⟨gb312, 3, none⟩ = some (.int .i64 0) := (blk_cell BK312.out 3).trans rfl; have hfz83_0 := blk_frozen BK312.out 0; have hfz83_1 := blk_frozen BK312.out 1; have hfz83_2 := blk_frozen BK312.out 2; have hfz83_3 := blk_frozen BK312.out 3) | ((with_reducible refine gate_callee (f := 105) rfl ?_); refine goesL_ (some 34) rfl rfl Try.func105 (by kernel_rfl) rfl #[.int .i64 ((rd_T73 l0 x26_2).f0)] rfl (by (try simp only [List.map_toArray, List.map_cons, List.map_nil]); first | done | rfl | (simp only [List.length_drop, List.length_take]; rfl)) ?_; (with_reducible refine (impl_parts.calls k2 ((rd_T73 l0 x26_2).f0) t313 t314 t315 _ A15.out).mono ?_); rintro e w' ⟨rfl, ⟨nd, rfl⟩⟩; refine ⟨_, rfl, ?_⟩) | ((with_reducible refine gate_callee (f := 62) rfl ?_); refine goesL_ (some 40) rfl rfl Try.func62 (by kernel_rfl) rfl #[.int .i64 ((rd_T73 l0 x26_2).f0), .int .i64 0, .int .i64 9] rfl (by (try simp only [List.map_toArray, List.map_cons, List.map_nil]); first | done | rfl | (simp only [List.length_drop, List.length_take]; rfl)) ?_; (with_reducible refine (impl_in.calls ((rd_T73 l0 x26_2).f0) 0 9 true _ A16.out).mono ?_); rintro e w' ⟨rfl, ⟨nd, rfl⟩⟩; refine ⟨_, rfl, ?_⟩) | (go_at_call 62; (with_reducible refine (impl_in.calls ((rd_T73 l0 x26_2).f2) 0 (wrap64 (x26_2 - 1)) false _ A49.out).mono ?_); rintro e w' ⟨rfl, ⟨nd, rfl⟩⟩))
                go_ret
                exact ⟨_, by first | rfl | (simp [errW_none, errW_some] <;> rfl) | (simp [*, errW_none, errW_some] <;> rfl), by first | exact Kd.R_nil _ _ _ _ _ | exact Kd.N_nil _ _ _ _ _ | exact Kd.V_nil _ _ _ _ _ | exact Kd.Q_nil _ _ _ _ _ | exact Kd.S_nil _ _ _ _ _, by repeat (first | (with_reducible first | exact HB.out | apply bwA | apply bwN | apply bwD | refine below_set ?_ GE312.out) | exact HB.out), by (try intro _); rfl⟩
              ·rw [if_neg c48] at H
               have c48b0 : (((rd_T73 l0 x26_2).f1) == 0) = false := beq_eq_false_iff_ne.mpr c48
               have c48b1 : (((rd_T73 l0 x26_2).f1) != 0) = true := bne_iff_ne.mpr c48
               obtain rfl := Option.some.inj H
               have p311 : 0 ≤ (x26_2 : Int) := of_decide_eq_true (by first | (with_reducible assumption) | assumption)
               have q311 : x26_2 < (l0.length : Int) := of_decide_eq_true (by first | (with_reducible assumption) | assumption)
               obtain ⟨ad311, e311, hx311_0, hx311_1, hx311_2, hx311_3⟩ := at_T73 HR0.out x26_2 p311 q311
               cases e311
               try replace hx311_0 := (HB.out.cell (World.block_lt_of_cell? w _ hx311_0)).trans hx311_0
               try replace hx311_1 := (HB.out.cell (World.block_lt_of_cell? w _ hx311_1)).trans hx311_1
               try replace hx311_2 := (HB.out.cell (World.block_lt_of_cell? w _ hx311_2)).trans hx311_2
               try replace hx311_3 := (HB.out.cell (World.block_lt_of_cell? w _ hx311_3)).trans hx311_3
               replace p311 := eq_true p311
               replace q311 := eq_true q311
               go_wp2_with (first | ((with_reducible refine gate_dst (N := 7) rfl ?_); (try (refine gate_guard (by rfl) ?_; dsimp only)); refine box_event ?hg (N := 7) ?hd (cs := #[.int .i64 0, .int .i64 0, .int .i64 0, .int .i64 0]) (t := 73) ?hr ?_; (case hd => rfl); (case hg => rfl); (case hr => first | (go_simp; done) | (go_simp; rfl)); intro gb312 hg w84 hbox hb; have n0_ := Aside0.mk (Kd.R_below (by (with_reducible repeat (first | apply Kd.R_alloc | apply Kd.R_drewN | apply Kd.R_drew)); exact HO_5.out) hb); have n1_ := Aside0.mk (below_step (by repeat (first | (with_reducible first | exact HB.out | apply bwA | apply bwN | apply bwD) | exact HB.out)) hb); have n2_ := Aside0.mk (hbox); have n3_ := Aside0.mk ((by rw [hg]; exact (below_size (by repeat (first | (with_reducible first | exact HB.out | apply bwA | apply bwN | apply bwD) | exact HB.out))) : w.heap.size ≤ gb312)); have n4_ := Aside0.mk ((by rw [hg]; exact (below_size (by repeat (first | (with_reducible first | exact HB.out | apply bwA | apply bwN | apply bwD) | exact HB.out))) : w.heap.size ≤ gb312)); clear HO_5; clear HB; have HO_5 := n0_; have HB := n1_; have BK312 := n2_; have GW312 := n3_; have GE312 := n4_; clear n0_ n1_ n2_ n3_ n4_; clear hb hbox hg; have hcz85_0 : w84.cell? ⟨gb312, 0, none⟩ = some (.int .i64 0) := (blk_cell BK312.out 0).trans rfl; have hcz85_1 : w84.cell? ⟨gb312, 1, none⟩ = some (.int .i64 0) := (blk_cell BK312.out 1).trans rfl; have hcz85_2 : w84.cell? ⟨gb312, 2, none⟩ = some (.int .i64 0) := (blk_cell BK312.out 2).trans rfl; have hcz85_3 : w84.cell? ⟨gb312, 3, none⟩ = some (.int .i64 0) := (blk_cell BK312.out 3).trans rfl; have hfz85_0 := blk_frozen BK312.out 0; have hfz85_1 := blk_frozen BK312.out 1; have hfz85_2 := blk_frozen BK312.out 2; have hfz85_3 := blk_frozen BK312.out 3) | ((with_reducible refine gate_callee (f := 105) rfl ?_); refine goesL_ (some 34) rfl rfl Try.func105 (by kernel_rfl) rfl #[.int .i64 ((rd_T73 l0 x26_2).f0)] rfl (by (try simp only [List.map_toArray, List.map_cons, List.map_nil]); first | done | rfl | (simp only [List.length_drop, List.length_take]; rfl)) ?_; (with_reducible refine (impl_parts.calls k2 ((rd_T73 l0 x26_2).f0) t313 t314 t315 _ A15.out).mono ?_); rintro e w' ⟨rfl, ⟨nd, rfl⟩⟩; refine ⟨_, rfl, ?_⟩) | ((with_reducible refine gate_callee (f := 62) rfl ?_); refine goesL_ (some 40) rfl rfl Try.func62 (by kernel_rfl) rfl #[.int .i64 ((rd_T73 l0 x26_2).f0), .int .i64 0, .int .i64 9] rfl (by (try simp only [List.map_toArray, List.map_cons, List.map_nil]); first | done | rfl | (simp only [List.length_drop, List.length_take]; rfl)) ?_; (with_reducible refine (impl_in.calls ((rd_T73 l0 x26_2).f0) 0 9 true _ A16.out).mono ?_); rintro e w' ⟨rfl, ⟨nd, rfl⟩⟩; refine ⟨_, rfl, ?_⟩))
               go_ret
               exact ⟨_, by first | rfl | (simp [errW_none, errW_some] <;> rfl) | (simp [*, errW_none, errW_some] <;> rfl), by first | exact Kd.R_nil _ _ _ _ _ | exact Kd.N_nil _ _ _ _ _ | exact Kd.V_nil _ _ _ _ _ | exact Kd.Q_nil _ _ _ _ _ | exact Kd.S_nil _ _ _ _ _, by repeat (first | (with_reducible first | exact HB.out | apply bwA | apply bwN | apply bwD | refine below_set ?_ GE312.out) | exact HB.out), by (try intro _); rfl⟩
             ·replace c47 := Bool.eq_false_iff.mpr c47
              subst c47
              have H1 : (some ([] : List Int)) = some r := by rw [if_neg (show ¬ (false = true) by decide)] at H; exact H
              clear H
              have H := H1
              clear H1
              obtain rfl := Option.some.inj H
              have p311 : 0 ≤ (x26_2 : Int) := of_decide_eq_true (by first | (with_reducible assumption) | assumption)
              have q311 : x26_2 < (l0.length : Int) := of_decide_eq_true (by first | (with_reducible assumption) | assumption)
              obtain ⟨ad311, e311, hx311_0, hx311_1, hx311_2, hx311_3⟩ := at_T73 HR0.out x26_2 p311 q311
              cases e311
              try replace hx311_0 := (HB.out.cell (World.block_lt_of_cell? w _ hx311_0)).trans hx311_0
              try replace hx311_1 := (HB.out.cell (World.block_lt_of_cell? w _ hx311_1)).trans hx311_1
              try replace hx311_2 := (HB.out.cell (World.block_lt_of_cell? w _ hx311_2)).trans hx311_2
              try replace hx311_3 := (HB.out.cell (World.block_lt_of_cell? w _ hx311_3)).trans hx311_3
              replace p311 := eq_true p311
              replace q311 := eq_true q311
              go_wp2_with (first | ((with_reducible refine gate_dst (N := 7) rfl ?_); (try (refine gate_guard (by rfl) ?_; dsimp only)); refine box_event ?hg (N := 7) ?hd (cs := #[.int .i64 0, .int .i64 0, .int .i64 0, .int .i64 0]) (t := 73) ?hr ?_; (case hd => rfl); (case hg => rfl); (case hr => first | (go_simp; done) | (go_simp; rfl)); intro gb312 hg w86 hbox hb; have n0_ := Aside0.mk (Kd.R_below (by (with_reducible repeat (first | apply Kd.R_alloc | apply Kd.R_drewN | apply Kd.R_drew)); exact HO_5.out) hb); have n1_ := Aside0.mk (below_step (by repeat (first | (with_reducible first | exact HB.out | apply bwA | apply bwN | apply bwD) | exact HB.out)) hb); have n2_ := Aside0.mk (hbox); have n3_ := Aside0.mk ((by rw [hg]; exact (below_size (by repeat (first | (with_reducible first | exact HB.out | apply bwA | apply bwN | apply bwD) | exact HB.out))) : w.heap.size ≤ gb312)); have n4_ := Aside0.mk ((by rw [hg]; exact (below_size (by repeat (first | (with_reducible first | exact HB.out | apply bwA | apply bwN | apply bwD) | exact HB.out))) : w.heap.size ≤ gb312)); clear HO_5; clear HB; have HO_5 := n0_; have HB := n1_; have BK312 := n2_; have GW312 := n3_; have GE312 := n4_; clear n0_ n1_ n2_ n3_ n4_; clear hb hbox hg; have hcz87_0 : w86.cell? ⟨gb312, 0, none⟩ = some (.int .i64 0) := (blk_cell BK312.out 0).trans rfl; have hcz87_1 : w86.cell? ⟨gb312, 1, none⟩ = some (.int .i64 0) := (blk_cell BK312.out 1).trans rfl; have hcz87_2 : w86.cell? ⟨gb312, 2, none⟩ = some (.int .i64 0) := (blk_cell BK312.out 2).trans rfl; have hcz87_3 : w86.cell? ⟨gb312, 3, none⟩ = some (.int .i64 0) := (blk_cell BK312.out 3).trans rfl; have hfz87_0 := blk_frozen BK312.out 0; have hfz87_1 := blk_frozen BK312.out 1; have hfz87_2 := blk_frozen BK312.out 2; have hfz87_3 := blk_frozen BK312.out 3) | ((with_reducible refine gate_callee (f := 105) rfl ?_); refine goesL_ (some 34) rfl rfl Try.func105 (by kernel_rfl) rfl #[.int .i64 ((rd_T73 l0 x26_2).f0)] rfl (by (try simp only [List.map_toArray, List.map_cons, List.map_nil]); first | done | rfl | (simp only [List.length_drop, List.length_take]; rfl)) ?_; (with_reducible refine (impl_parts.calls k2 ((rd_T73 l0 x26_2).f0) t313 t314 t315 _ A15.out).mono ?_); rintro e w' ⟨rfl, ⟨nd, rfl⟩⟩; refine ⟨_, rfl, ?_⟩) | ((with_reducible refine gate_callee (f := 62) rfl ?_); refine goesL_ (some 40) rfl rfl Try.func62 (by kernel_rfl) rfl #[.int .i64 ((rd_T73 l0 x26_2).f0), .int .i64 0, .int .i64 9] rfl (by (try simp only [List.map_toArray, List.map_cons, List.map_nil]); first | done | rfl | (simp only [List.length_drop, List.length_take]; rfl)) ?_; (with_reducible refine (impl_in.calls ((rd_T73 l0 x26_2).f0) 0 9 false _ A16.out).mono ?_); rintro e w' ⟨rfl, ⟨nd, rfl⟩⟩; refine ⟨_, rfl, ?_⟩))
              go_ret
              exact ⟨_, by first | rfl | (simp [errW_none, errW_some] <;> rfl) | (simp [*, errW_none, errW_some] <;> rfl), by first | exact Kd.R_nil _ _ _ _ _ | exact Kd.N_nil _ _ _ _ _ | exact Kd.V_nil _ _ _ _ _ | exact Kd.Q_nil _ _ _ _ _ | exact Kd.S_nil _ _ _ _ _, by repeat (first | (with_reducible first | exact HB.out | apply bwA | apply bwN | apply bwD | refine below_set ?_ GE312.out) | exact HB.out), by (try intro _); rfl⟩
          ·rw [if_neg c14] at H
           exact absurd H (by simp)
         ·rw [if_neg c13] at H
          exact absurd H (by simp)
        ·rw [if_neg c12] at H
         have c12b0 : decide (x26_2 < (l0.length : Int)) = false := decide_eq_false c12
         clear c12
         obtain rfl := Option.some.inj H
         go_wp2
         go_ret
         exact ⟨_, by first | rfl | (simp [errW_none, errW_some] <;> rfl) | (simp [*, errW_none, errW_some] <;> rfl), by (with_reducible repeat (first | apply Kd.R_alloc | apply Kd.R_drewN | apply Kd.R_drew)); exact HO_5.out, by repeat (first | (with_reducible first | exact HB.out | apply bwA | apply bwN | apply bwD) | exact HB.out), fun e_ => by have h1_ := HL_.out; have h2_ := NE_.out (by simp); have h3_ := of_decide_eq_false c12b0; rw [e_] at h1_; simp at h1_; omega⟩
     ·rw [if_neg c9] at H
      exact absurd H (by simp)
    ·rw [if_neg c8] at H
     exact absurd H (by simp)
theorem impl_kindsOf.calls (k : Nat) (A0 : Option Addr) (c0 : Nat) (l0 : List (S73)) (a1 : Int) (r : List Int) (w : World) (hr0 : Kd.C k73 w A0 l0.length l0) (hc0 : l0.length ≤ c0) (h : impl_kindsOf.f k l0 a1 = some r) :
  Calls Try.prog 65 #[.slice A0 l0.length c0, .int .i64 a1] w fun e w' => ∃ v0_ : Value, e = .returned (v0_) ∧ Kd.R (Kd.int .i64) 3 w' w.heap.size (fun _ => True) v0_ r ∧ Below w.heap.size w w' := (impl_kindsOf.calls_n k A0 c0 l0 a1 r w hr0 hc0 h).mono (by rintro e w' ⟨v, e1, e2, e3, _⟩; exact ⟨v, e1, e2, e3⟩)


/-! ### impl_TermsValid: function 23 -/
def impl_TermsValid.f (k : Nat) (l0 : List (S73)) (a1 : Int) : Option Bool := (impl_kindsOf.f k l0 a1).bind fun t => some (!t.isEmpty)
theorem impl_TermsValid.mono : ∀ a0 a1 k, LeO (impl_TermsValid.f k a0 a1) (impl_TermsValid.f (k + 1) a0 a1) := fun a0 a1 k => LeO.bind (impl_kindsOf.mono a0 a1 k) (fun _ => LeO.refl _)
set_option maxHeartbeats 400000 in
theorem impl_TermsValid.calls (k : Nat) (A0 : Option Addr) (c0 : Nat) (l0 : List (S73)) (a1 : Int) (r : Bool) (w : World) (hr0 : Kd.C k73 w A0 l0.length l0) (hc0 : l0.length ≤ c0) (h : impl_TermsValid.f k l0 a1 = some r) :
  Calls Try.prog 23 #[.slice A0 l0.length c0, .int .i64 a1] w fun e w' => e = .returned (.bool r) ∧ Below w.heap.size w w' := by
 obtain ⟨t, h1, h2⟩ := Option.bind_eq_some_iff.mp h
 obtain rfl := Option.some.inj h2
 have HC := Aside0.mk (impl_kindsOf.calls_n k A0 c0 l0 a1 t w hr0 hc0 h1)
 have hun_ := fun (w_ : World) (A_ : Option Addr) (n_ c_ : Nat) => Copy.neq_nil (P := Try.prog) w_ 23 _ A_ n_ c_ Try.underlying23
 clear h h1 h2 hr0 hc0
 cases t with
 | nil =>
  go_enter Try.func23, Try.ntmps23
  go_wp2_with (go_at_call 65; refine HC.out.mono ?_; rintro e w' ⟨v, rfl, hR, hb, hn⟩; have hn_ := hn rfl; subst hn_; have HB := Aside0.mk hb; clear hb hR hn)
  go_ret
  exact ⟨rfl, HB.out⟩
 | cons x xs =>
  go_enter Try.func23, Try.ntmps23
  go_wp2_with (go_at_call 65; refine HC.out.mono ?_; rintro e w' ⟨v, rfl, hR, hb, hn⟩; obtain ⟨go_, c_, eo_, _⟩ := Kd.R_form hR (by simp); subst eo_; have HB := Aside0.mk hb; clear hb hR hn)
  go_ret
  exact ⟨rfl, HB.out⟩

/-! ### slices_IndexFunc_int_int: function 136 -/
set_option maxHeartbeats 400000 in
theorem slices_IndexFunc_int_int.calls (g : Nat) (lb : Array Value) (eg : ∀ args w, (callFunc g args).run Try.prog w = .ok (.enter g args) w)
  (A0 : Option Addr) (c0 : Nat) (l0 : List Int) (p : Int → Option Bool) (r : Int) (w : World) (hr0 : Kd.C (Kd.int .i64) w A0 l0.length l0)
  (hp : ∀ (i : Int), 0 ≤ i → i < l0.length → ∀ b, p i = some b → ∀ W, Below w.heap.size w W → Calls Try.prog g (#[.int .i64 (rd l0 i)] ++ lb) W fun e w' => e = .returned (.bool b) ∧ Below W.heap.size W w')
  (h : Copy.idxO p l0.length 0 = some r) :
  Calls Try.prog 136 #[.slice A0 l0.length c0, .func (.func g) #[] lb] w fun e w' => e = .returned (.int .i64 r) ∧ Below w.heap.size w w' := by
 have hn : l0.length ≤ 9223372036854775807 := hr0.2.1
 have HR0 := Aside0.mk hr0
 have HP := Aside0.mk hp
 have H := Aside0.mk h
 clear hp hr0 h
 go_enter Try.func136, Try.ntmps136
 go_wp2
 go_loopg [5, 8] l0.length (fun gg _ s8 wr => ∃ kk : Int, 0 ≤ kk ∧ kk ≤ (l0.length : Int) ∧ Aside0 (l0.length ≤ gg + kk) ∧ s8 = .int .i64 kk ∧ Aside0 (Below w.heap.size w wr) ∧ Aside0 (Copy.idxO p (l0.length - kk.toNat) kk = some r))
 case atStart => exact ⟨0, by omega, by omega, ⟨by omega⟩, rfl, ⟨Below.refl _ _⟩, H⟩
 case round =>
  clear H
  obtain ⟨kk, h0, hkk, hg, rfl, HB, A⟩ := hrel
  by_cases hlt : kk < (l0.length : Int)
  ·have hltb : decide (kk < (l0.length : Int)) = true := decide_eq_true hlt
   obtain ⟨ad, e1, hx0⟩ := Kd.at_int (Kd.C_below HR0.out HB.out) kk h0 hlt
   cases e1
   have hd : l0.length - kk.toNat = (l0.length - (kk + 1).toNat) + 1 := by omega
   have A1 := A.out
   rw [hd, Copy.idxO] at A1
   clear A hd
   obtain ⟨b, hq, A1⟩ := Option.bind_eq_some_iff.mp A1
   have hcall := Aside0.mk (HP.out kk h0 hlt b hq _ HB.out)
   have H0 := Aside0.mk h0
   replace h0 := eq_true h0
   clear hq
   cases b with
   | true =>
    rw [if_pos rfl] at A1
    obtain rfl := Option.some.inj A1
    clear A1
    go_wp2_with (go_at_fn g; refine hcall.out.mono ?_; rintro e w' ⟨rfl, HB1⟩)
    go_ret
    exact ⟨rfl, below_then HB.out HB.out.size HB1⟩
   | false =>
    have A' := Aside0.mk A1
    clear A1
    have hw : wrap64 (kk + 1) = kk + 1 := by have := H0.out; unfold wrap64; omega
    have HW := Aside0.mk hw
    clear hw
    go_wp2_with (go_at_fn g; refine hcall.out.mono ?_; rintro e w' ⟨rfl, HB1⟩)
    go_roundg (l0.length - (kk + 1).toNat)
    case measure => have := hg.out; have := H0.out; omega
    case rel => exact ⟨kk + 1, by have := H0.out; omega, by omega, ⟨by have := H0.out; omega⟩, by first | rfl | rw [HW.out], ⟨below_then HB.out HB.out.size HB1⟩, ⟨by have := A'.out; simpa using this⟩⟩
  ·have hltb : decide (kk < (l0.length : Int)) = false := decide_eq_false hlt
   have this : kk.toNat = l0.length := by omega
   have A1 := A.out
   rw [this, Nat.sub_self, Copy.idxO] at A1
   obtain rfl := Option.some.inj A1
   clear A A1 this
   go_wp2
   go_ret
   exact ⟨rfl, HB.out⟩

/-! ### slices_ContainsFunc_int_int: function 102 -/
set_option maxHeartbeats 400000 in
theorem slices_ContainsFunc_int_int.calls (g : Nat) (lb : Array Value) (eg : ∀ args w, (callFunc g args).run Try.prog w = .ok (.enter g args) w)
  (A0 : Option Addr) (c0 : Nat) (l0 : List Int) (p : Int → Option Bool) (r : Int) (w : World) (hr0 : Kd.C (Kd.int .i64) w A0 l0.length l0)
  (hp : ∀ (i : Int), 0 ≤ i → i < l0.length → ∀ b, p i = some b → ∀ W, Below w.heap.size w W → Calls Try.prog g (#[.int .i64 (rd l0 i)] ++ lb) W fun e w' => e = .returned (.bool b) ∧ Below W.heap.size W w')
  (h : Copy.idxO p l0.length 0 = some r) :
  Calls Try.prog 102 #[.slice A0 l0.length c0, .func (.func g) #[] lb] w fun e w' => e = .returned (.bool (decide (0 ≤ r))) ∧ Below w.heap.size w w' := by
 have HC := Aside0.mk (slices_IndexFunc_int_int.calls g lb eg A0 c0 l0 p r w hr0 hp h)
 clear hp hr0 h
 go_enter Try.func102, Try.ntmps102
 go_wp2_with (go_at_call 136; refine HC.out.mono ?_; rintro e w' ⟨rfl, HB1⟩)
 go_ret
 exact ⟨rfl, HB1⟩

/-! ### impl_stateOk: function 56 -/
def impl_stateOk.p (l0 : List Int) (i : Int) : Option Bool := (impl_in.f (rd l0 i) (-9999) 9999).bind fun b => some (!b)
theorem impl_stateOk_pred (l0 : List Int) (w : World) : ∀ (i : Int), 0 ≤ i → i < l0.length → ∀ b, impl_stateOk.p l0 i = some b → ∀ W, Below w.heap.size w W → Calls Try.prog 103 (#[.int .i64 (rd l0 i)] ++ #[]) W fun e w' => e = .returned (.bool b) ∧ Below W.heap.size W w' := by
 intro i h0 h1 b hb W hW
 obtain ⟨b1, hb1, hb2⟩ := Option.bind_eq_some_iff.mp hb
 obtain rfl := Option.some.inj hb2
 clear hb hb2
 have HC := Aside0.mk (impl_in.calls (rd l0 i) (-9999) 9999 b1 W hb1)
 clear hb1 hW h0 h1
 show Calls Try.prog 103 #[.int .i64 (rd l0 i)] W _
 generalize rd l0 i = x at HC ⊢
 cases b1
 all_goals
  go_enter Try.func103, Try.ntmps103
  go_wp2_with (go_at_call 62; refine HC.out.mono ?_; rintro e w' ⟨rfl, ⟨nd, rfl⟩⟩)
  go_ret
  exact ⟨by first | rfl | simp, by first | exact (Drawn0.below ⟨nd, rfl⟩) | exact Drawn0.below (Drawn0.mk ⟨_, rfl⟩)⟩
def impl_stateOk.f (l0 : List Int) : Option Bool := if (l0.length : Int) ≤ 5 then (Copy.idxO (impl_stateOk.p l0) l0.length 0).bind fun r => some (!(decide (0 ≤ r))) else some false
set_option maxHeartbeats 400000 in
theorem impl_stateOk.calls (A0 : Option Addr) (c0 : Nat) (l0 : List Int) (r : Bool) (w : World) (hr0 : Kd.C (Kd.int .i64) w A0 l0.length l0) (hc0 : l0.length ≤ c0) (h : impl_stateOk.f l0 = some r) :
  Calls Try.prog 56 #[.slice A0 l0.length c0] w fun e w' => e = .returned (.bool r) ∧ Below w.heap.size w w' := by
 have eg : ∀ args w, (callFunc 103 args).run Try.prog w = .ok (.enter 103 args) w := enters_of Try.func103 (by kernel_rfl) rfl
 unfold impl_stateOk.f at h
 by_cases c : (l0.length : Int) ≤ 5
 ·rw [if_pos c] at h
  obtain ⟨ri, hi, h⟩ := Option.bind_eq_some_iff.mp h
  obtain rfl := Option.some.inj h
  have HC := slices_ContainsFunc_int_int.calls 103 #[] eg A0 c0 l0 _ ri w hr0 (impl_stateOk_pred l0 w) hi
  have cb : decide ((l0.length : Int) ≤ 5) = true := decide_eq_true c
  clear hi h hr0 eg c
  generalize decide (0 ≤ ri) = b at HC ⊢
  have HC' := Aside0.mk HC
  clear HC
  cases b
  all_goals
   go_enter Try.func56, Try.ntmps56
   go_wp2_with (go_at_call 102; refine HC'.out.mono ?_; rintro e w' ⟨rfl, HB1⟩)
   go_ret
   exact ⟨by first | rfl | simp, HB1⟩
 ·rw [if_neg c] at h
  obtain rfl := Option.some.inj h
  have cb : decide ((l0.length : Int) ≤ 5) = false := decide_eq_false c
  clear h hr0 eg c
  go_enter Try.func56, Try.ntmps56
  go_wp2
  go_ret
  exact ⟨rfl, Below.refl _ _⟩

/-! ### impl_held: function 114 -/
def impl_held.f (a0 : Int) : Option (Int) := some (mx (-9999) (mn 9999 a0))
set_option maxHeartbeats 8000000 in
set_option maxRecDepth 100000 in
theorem impl_held.calls (a0 : Int) (r : Int) (w : World) (h : impl_held.f a0 = some r) :
  Calls Try.prog 114 #[.int .i64 a0] w fun e w' => e = .returned (.int .i64 r) ∧ Below w.heap.size w w' := by
 have HB := Aside0.mk (Below.refl w.heap.size w)
 have H : (some (mx (-9999) (mn 9999 a0))) = some r := h
 clear h
 obtain ⟨ji2, hji2⟩ : ∃ j_ : Int, (mn 9999 a0) = j_ := ⟨_, rfl⟩
 replace H : (some (mx (-9999) (ji2))) = some r := by first | (rw [hji2] at H; exact H) | (simp only [hji2] at H ⊢; exact H)
 (try (have hji2h : ji2 ≤ 9999 := by (rw [← hji2]; unfold mn; (repeat' split) <;> omega)))
 (try (have hji2g : ji2 ≤ 64 := by omega))
 have hji2_ : (if a0 < 9999 then a0 else 9999) = ji2 := hji2
 obtain ⟨ji3, hji3⟩ : ∃ j_ : Int, (mx (-9999) (ji2)) = j_ := ⟨_, rfl⟩
 replace H : (some ji3) = some r := by first | (rw [hji3] at H; exact H) | (simp only [hji3] at H ⊢; exact H)
 have hji3_ : (if (-9999) < (ji2) then (ji2) else (-9999)) = ji3 := hji3
 obtain rfl := Option.some.inj H
 go_enter Try.func114, Try.ntmps114
 go_wp2
 go_ret
 exact ⟨by first | rfl | (simp [errW_none, errW_some] <;> rfl) | (simp only [← hji2, ← hji3]; first | rfl | (simp [errW_none, errW_some] <;> rfl)) | (simp [*, errW_none, errW_some] <;> rfl), by repeat (first | (with_reducible first | exact HB.out | apply bwA | apply bwN | apply bwD) | exact HB.out)⟩

/-! ### impl_bit: function 117 -/
def impl_bit.f (a0 : Bool) : Option (Int) := if a0 = true then (some 1) else (some 0)
set_option maxHeartbeats 8000000 in
set_option maxRecDepth 100000 in
theorem impl_bit.calls (a0 : Bool) (r : Int) (w : World) (h : impl_bit.f a0 = some r) :
  Calls Try.prog 117 #[.bool a0] w fun e w' => e = .returned (.int .i64 r) ∧ Drawn0 w w' := by
 have H : (if a0 = true then (some 1) else (some 0)) = some r := h
 clear h
 by_cases c2 : a0 = true
 ·subst c2
  have H1 : (some 1) = some r := by rw [if_pos rfl] at H; exact H
  clear H
  have H := H1
  clear H1
  obtain rfl := Option.some.inj H
  go_enter Try.func117, Try.ntmps117
  go_wp2
  go_ret
  exact ⟨by first | rfl | (simp; done) | (simp [*]; done), by repeat (first | exact Drawn0.refl _ | apply Drawn0.step)⟩
 ·replace c2 := Bool.eq_false_iff.mpr c2
  subst c2
  have H1 : (some 0) = some r := by rw [if_neg (show ¬ (false = true) by decide)] at H; exact H
  clear H
  have H := H1
  clear H1
  obtain rfl := Option.some.inj H
  go_enter Try.func117, Try.ntmps117
  go_wp2
  go_ret
  exact ⟨by first | rfl | (simp; done) | (simp [*]; done), by repeat (first | exact Drawn0.refl _ | apply Drawn0.step)⟩

end Go.Proofs.Ytpfkgmcbogcmoaa.QFnExactRangeOf
