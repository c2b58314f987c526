-- Written by a program of this session (mk.py). Lean checks it.
import Derived.Test.YtkfmgfdbdgjfiaaQFnExactCheckProofx0
import Derived.Test.YtkfmgfdbdgjfiaaQFnExactCheckProofx5
namespace Go.Proofs.Ytkfmgfdbdgjfiaa.QFnExactCheckProof
open Go.RowKit Go.Proofs.YtkfmgfdbdgjfiaaW.PrintWords Go.Proofs.YtkfmgfdbdgjfiaaW.PrintLast Go.Proofs.YtkfmgfdbdgjfiaaW.PrintMore
attribute [local go_sem] max2_int min2_int max_two min_two max_three min_three max_four min_four   -- for this text's walks alone
set_option linter.unusedVariables false
set_option linter.unusedSimpArgs false

/-! ### impl_ClauseValid: function 51 -/
def impl_ClauseValid.l0 : Nat → List Int → Int → List Int → Int → Int → Option (Bool)
 | 0, _, _, _, _, _ => none
 | k + 1, x0, x1, x10, x11, x12 => if x12 < x11 then (if 0 ≤ x12 then (if x12 < (x10.length : Int) then ((impl_in.f (rd x10 x12) (wrap64 (-x1)) x1).bind fun t231 => (if t231 = true then (if (rd x10 x12) = 0 then (some false) else (if x12 > 0 then (if 0 ≤ (wrap64 (x12 - 1)) then (if (wrap64 (x12 - 1)) < (x0.length : Int) then ((impl_atomOf.f (rd x0 (wrap64 (x12 - 1)))).bind fun t233 => ((impl_atomOf.f (rd x10 x12)).bind fun t234 => (if t233 ≥ t234 then (some false) else (impl_ClauseValid.l0 k x0 x1 x10 x11 (wrap64 (x12 + 1)))))) else (none)) else (none)) else (impl_ClauseValid.l0 k x0 x1 x10 x11 (wrap64 (x12 + 1))))) else (some false))) else (none)) else (none)) else (some true)
def impl_ClauseValid.f (k : Nat) (l0 : List Int) (a1 : Int) : Option (Bool) := (impl_in.f a1 0 700).bind fun t229 => (if t229 = true then (impl_ClauseValid.l0 k l0 a1 l0 (l0.length : Int) 0) else (some false))
theorem impl_ClauseValid.mono_l : ∀ k, (∀ y0 y1 y2 y3 y4, LeO (impl_ClauseValid.l0 k y0 y1 y2 y3 y4) (impl_ClauseValid.l0 (k + 1) y0 y1 y2 y3 y4))
 | 0 => fun _ _ _ _ _ r h => by simp [impl_ClauseValid.l0] at h
 | k + 1 => by
  have ih0 := impl_ClauseValid.mono_l k
  ·intro y0 y1 y2 y3 y4
   unfold impl_ClauseValid.l0
   repeat' first
   | (with_reducible exact ih0 _ _ _ _ _)
   | (with_reducible exact LeO.refl _)
   | (with_reducible exact LeO.none _)
   | (with_reducible refine LeO.ite ?_ ?_)
   | (with_reducible refine LeO.bind ?_ (fun _ => ?_))
   | exact ih0 _ _ _ _ _
   | exact LeO.none _
   | refine LeO.ite ?_ ?_
   | refine LeO.bind ?_ (fun _ => ?_)
theorem impl_ClauseValid.mono : ∀ a0 a1 k, LeO (impl_ClauseValid.f k a0 a1) (impl_ClauseValid.f (k + 1) a0 a1) := by
 intro a0 a1 k
 have ih0 := impl_ClauseValid.mono_l k
 unfold impl_ClauseValid.f
 repeat' first
   | (with_reducible exact ih0 _ _ _ _ _)
   | (with_reducible exact LeO.refl _)
   | (with_reducible exact LeO.none _)
   | (with_reducible refine LeO.ite ?_ ?_)
   | (with_reducible refine LeO.bind ?_ (fun _ => ?_))
   | exact ih0 _ _ _ _ _
   | exact LeO.none _
   | refine LeO.ite ?_ ?_
   | refine LeO.bind ?_ (fun _ => ?_)
set_option maxHeartbeats 8000000 in
set_option maxRecDepth 100000 in
theorem impl_ClauseValid.calls (k : Nat) (A0 : Option Addr) (c0 : Nat) (l0 : List Int) (a1 : Int) (r : Bool) (w : World) (hr0 : Kd.C (Kd.int .i64) w A0 l0.length l0) (hc0 : l0.length ≤ c0) (h : impl_ClauseValid.f k l0 a1 = some r) :
  Calls Try.prog 51 #[.slice A0 l0.length c0, .int .i64 a1] w fun e w' => e = .returned (.bool r) ∧ Below w.heap.size w w' := by
 have HR0 := Aside0.mk hr0
 have HC0 := Aside0.mk hc0
 clear hr0 hc0
 have HB := Aside0.mk (Below.refl w.heap.size w)
 have H : ((impl_in.f a1 0 700).bind fun t229 => (if t229 = true then (impl_ClauseValid.l0 k l0 a1 l0 (l0.length : Int) 0) else (some false))) = some r := h
 clear h
 replace H := Option.bind_eq_some_iff.mp H
 obtain ⟨t229, A30, H⟩ := H
 replace H : (if t229 = true then (impl_ClauseValid.l0 k l0 a1 l0 (l0.length : Int) 0) else (some false)) = some r := H
 have A3 := Aside0.mk A30
 clear A30
 by_cases c4 : t229 = true
 ·subst c4
  have H1 : (impl_ClauseValid.l0 k l0 a1 l0 (l0.length : Int) 0) = some r := by rw [if_pos rfl] at H; exact H
  clear H
  have H := H1
  clear H1
  have H' := Aside0.mk H
  clear H
  go_enter Try.func51, Try.ntmps51
  go_wp2_with (first | ((with_reducible refine gate_callee (f := 60) rfl ?_); refine goesL_ (some 8) rfl rfl Try.func60 (by kernel_rfl) rfl #[.int .i64 a1, .int .i64 0, .int .i64 700] rfl (by (try simp only [List.map_toArray, List.map_cons, List.map_nil]); first | done | rfl | (simp only [List.length_drop, List.length_take]; rfl)) ?_; (with_reducible refine (impl_in.calls a1 0 700 true _ A3.out).mono ?_); rintro e w' ⟨rfl, ⟨nd, rfl⟩⟩; refine ⟨_, rfl, ?_⟩))
  go_loopg [12] k (fun kq v12 w' => ∃ (x12_1 : Int), v12 = .int .i64 x12_1 ∧ Aside0 (impl_ClauseValid.l0 kq l0 a1 l0 (l0.length : Int) x12_1 = some r) ∧ Aside0 (kq ≤ k) ∧ Aside0 (Below w.heap.size w w'))
  case atStart => exact ⟨(0), (by first | rfl | (simp; done) | (simp [*]; done)), H', ⟨Nat.le_refl _⟩, ⟨by repeat (first | (with_reducible first | exact HB.out | apply bwA | apply bwN | apply bwD) | exact HB.out)⟩⟩
  case round =>
   clear H'
   try clear p2
   try clear c4
   obtain ⟨x12_1, rfl, HA, HK1, HB⟩ := hrel
   cases gk with
   | zero => exact absurd HA.out (by simp [impl_ClauseValid.l0])
   | succ k1 =>
    have H := HA.out
    clear HA
    simp only [impl_ClauseValid.l0] at H
    by_cases c5 : x12_1 < (l0.length : Int)
    ·rw [if_pos c5] at H
     have c5b0 : decide (x12_1 < (l0.length : Int)) = true := decide_eq_true c5
     clear c5
     by_cases c6 : 0 ≤ x12_1
     ·rw [if_pos c6] at H
      have c6b0 : decide (0 ≤ x12_1) = true := decide_eq_true c6
      clear c6
      by_cases c7 : x12_1 < (l0.length : Int)
      ·rw [if_pos c7] at H
       have c7b0 : decide (x12_1 < (l0.length : Int)) = true := decide_eq_true c7
       clear c7
       replace H := Option.bind_eq_some_iff.mp H
       obtain ⟨t231, A80, H⟩ := H
       replace H : (if t231 = true then (if (rd l0 x12_1) = 0 then (some false) else (if x12_1 > 0 then (if 0 ≤ (wrap64 (x12_1 - 1)) then (if (wrap64 (x12_1 - 1)) < (l0.length : Int) then ((impl_atomOf.f (rd l0 (wrap64 (x12_1 - 1)))).bind fun t233 => ((impl_atomOf.f (rd l0 x12_1)).bind fun t234 => (if t233 ≥ t234 then (some false) else (impl_ClauseValid.l0 k1 l0 a1 l0 (l0.length : Int) (wrap64 (x12_1 + 1)))))) else (none)) else (none)) else (impl_ClauseValid.l0 k1 l0 a1 l0 (l0.length : Int) (wrap64 (x12_1 + 1))))) else (some false)) = some r := H
       have A8 := Aside0.mk A80
       clear A80
       by_cases c9 : t231 = true
       ·subst c9
        have H1 : (if (rd l0 x12_1) = 0 then (some false) else (if x12_1 > 0 then (if 0 ≤ (wrap64 (x12_1 - 1)) then (if (wrap64 (x12_1 - 1)) < (l0.length : Int) then ((impl_atomOf.f (rd l0 (wrap64 (x12_1 - 1)))).bind fun t233 => ((impl_atomOf.f (rd l0 x12_1)).bind fun t234 => (if t233 ≥ t234 then (some false) else (impl_ClauseValid.l0 k1 l0 a1 l0 (l0.length : Int) (wrap64 (x12_1 + 1)))))) else (none)) else (none)) else (impl_ClauseValid.l0 k1 l0 a1 l0 (l0.length : Int) (wrap64 (x12_1 + 1))))) = some r := by rw [if_pos rfl] at H; exact H
        clear H
        have H := H1
        clear H1
        by_cases c10 : (rd l0 x12_1) = 0
        ·rw [if_pos c10] at H
         have c10b0 : ((rd l0 x12_1) == 0) = true := beq_iff_eq.mpr c10
         have c10b1 : ((rd l0 x12_1) != 0) = false := bne_eq_false_iff_eq.mpr c10
         clear c10
         obtain rfl := Option.some.inj H
         have p230 : 0 ≤ (x12_1 : Int) := of_decide_eq_true (by first | (with_reducible assumption) | assumption)
         have q230 : x12_1 < (l0.length : Int) := of_decide_eq_true (by first | (with_reducible assumption) | assumption)
         obtain ⟨ad230, e230, hx230_0⟩ := Kd.at_int HR0.out x12_1 p230 q230
         cases e230
         try replace hx230_0 := (HB.out.cell (World.block_lt_of_cell? w _ hx230_0)).trans hx230_0
         replace p230 := eq_true p230
         replace q230 := eq_true q230
         go_wp2_with (first | ((with_reducible refine gate_callee (f := 60) rfl ?_); refine goesL_ (some 21) rfl rfl Try.func60 (by kernel_rfl) rfl #[.int .i64 (rd l0 x12_1), .int .i64 (wrap64 (-a1)), .int .i64 a1] rfl (by (try simp only [List.map_toArray, List.map_cons, List.map_nil]); first | done | rfl | (simp only [List.length_drop, List.length_take]; rfl)) ?_; (with_reducible refine (impl_in.calls (rd l0 x12_1) (wrap64 (-a1)) a1 true _ A8.out).mono ?_); rintro e w' ⟨rfl, ⟨nd, rfl⟩⟩; refine ⟨_, rfl, ?_⟩))
         go_ret
         exact ⟨by first | rfl | (simp [errW_none, errW_some] <;> rfl) | (simp [*, errW_none, errW_some] <;> rfl), by repeat (first | (with_reducible first | exact HB.out | apply bwA | apply bwN | apply bwD) | exact HB.out)⟩
        ·rw [if_neg c10] at H
         have c10b0 : ((rd l0 x12_1) == 0) = false := beq_eq_false_iff_ne.mpr c10
         have c10b1 : ((rd l0 x12_1) != 0) = true := bne_iff_ne.mpr c10
         by_cases c11 : x12_1 > 0
         ·rw [if_pos c11] at H
          have c11b0 : decide (0 < x12_1) = true := decide_eq_true c11
          clear c11
          obtain ⟨ji12, hji12⟩ : ∃ j_ : Int, (wrap64 (x12_1 - 1)) = j_ := ⟨_, rfl⟩
          replace H : (if 0 ≤ (ji12) then (if (ji12) < (l0.length : Int) then ((impl_atomOf.f (rd l0 (ji12))).bind fun t233 => ((impl_atomOf.f (rd l0 x12_1)).bind fun t234 => (if t233 ≥ t234 then (some false) else (impl_ClauseValid.l0 k1 l0 a1 l0 (l0.length : Int) (wrap64 (x12_1 + 1)))))) else (none)) else (none)) = some r := by first | (rw [hji12] at H; exact H) | (simp only [hji12] at H ⊢; exact H)
          (try rw [hji12] at A8)
          have hji12w : (IntKind.i64.wrap (x12_1 - 1)) = ji12 := (i64_w _).trans hji12
          by_cases c13 : 0 ≤ (ji12)
          ·rw [if_pos c13] at H
           have c13b0 : decide (0 ≤ (ji12)) = true := decide_eq_true c13
           clear c13
           by_cases c14 : (ji12) < (l0.length : Int)
           ·rw [if_pos c14] at H
            have c14b0 : decide ((ji12) < (l0.length : Int)) = true := decide_eq_true c14
            clear c14
            replace H := Option.bind_eq_some_iff.mp H
            obtain ⟨t233, A150, H⟩ := H
            replace H : ((impl_atomOf.f (rd l0 x12_1)).bind fun t234 => (if t233 ≥ t234 then (some false) else (impl_ClauseValid.l0 k1 l0 a1 l0 (l0.length : Int) (wrap64 (x12_1 + 1))))) = some r := H
            have A15 := Aside0.mk A150
            clear A150
            replace H := Option.bind_eq_some_iff.mp H
            obtain ⟨t234, A160, H⟩ := H
            replace H : (if t233 ≥ t234 then (some false) else (impl_ClauseValid.l0 k1 l0 a1 l0 (l0.length : Int) (wrap64 (x12_1 + 1)))) = some r := H
            have A16 := Aside0.mk A160
            clear A160
            by_cases c17 : t233 ≥ t234
            ·rw [if_pos c17] at H
             have c17b0 : decide (t234 ≤ t233) = true := decide_eq_true c17
             clear c17
             obtain rfl := Option.some.inj H
             have p230 : 0 ≤ (x12_1 : Int) := of_decide_eq_true (by first | (with_reducible assumption) | assumption)
             have q230 : x12_1 < (l0.length : Int) := of_decide_eq_true (by first | (with_reducible assumption) | assumption)
             obtain ⟨ad230, e230, hx230_0⟩ := Kd.at_int HR0.out x12_1 p230 q230
             cases e230
             try replace hx230_0 := (HB.out.cell (World.block_lt_of_cell? w _ hx230_0)).trans hx230_0
             replace p230 := eq_true p230
             replace q230 := eq_true q230
             go_wp2_with (first | ((with_reducible refine gate_callee (f := 60) rfl ?_); refine goesL_ (some 21) rfl rfl Try.func60 (by kernel_rfl) rfl #[.int .i64 (rd l0 x12_1), .int .i64 (wrap64 (-a1)), .int .i64 a1] rfl (by (try simp only [List.map_toArray, List.map_cons, List.map_nil]); first | done | rfl | (simp only [List.length_drop, List.length_take]; rfl)) ?_; (with_reducible refine (impl_in.calls (rd l0 x12_1) (wrap64 (-a1)) a1 true _ A8.out).mono ?_); rintro e w' ⟨rfl, ⟨nd, rfl⟩⟩; refine ⟨_, rfl, ?_⟩; have p232 : 0 ≤ ((ji12) : Int) := of_decide_eq_true (by first | (with_reducible assumption) | assumption); have q232 : (ji12) < (l0.length : Int) := of_decide_eq_true (by first | (with_reducible assumption) | assumption); obtain ⟨ad232, e232, hx232_0⟩ := Kd.at_int HR0.out (ji12) p232 q232; obtain rfl : ad230 = ad232 := (by injection e232); replace hx232_0 := (HB.out.cell (World.block_lt_of_cell? w _ hx232_0)).trans hx232_0; replace p232 := eq_true p232; replace q232 := eq_true q232) | (go_at_call 93; (with_reducible refine (impl_atomOf.calls (rd l0 (ji12)) t233 _ A15.out).mono ?_); rintro e w18 ⟨rfl, hb⟩; have n0_ := Aside0.mk (below_step (by repeat (first | (with_reducible first | exact HB.out | apply bwA | apply bwN | apply bwD) | exact HB.out)) hb); clear HB; have HB := n0_; clear n0_; (try clear hb); (try clear hb2); (try clear hk); (try clear hi)) | (go_at_call 93; (with_reducible refine (impl_atomOf.calls (rd l0 x12_1) t234 _ A16.out).mono ?_); rintro e w19 ⟨rfl, hb⟩; have n0_ := Aside0.mk (below_step (by repeat (first | (with_reducible first | exact HB.out | apply bwA | apply bwN | apply bwD) | exact HB.out)) hb); clear HB; have HB := n0_; clear n0_; (try clear hb); (try clear hb2); (try clear hk); (try clear hi)))
             go_ret
             exact ⟨by first | rfl | (simp [errW_none, errW_some] <;> rfl) | (simp only [← hji12]; first | rfl | (simp [errW_none, errW_some] <;> rfl)) | (simp [*, errW_none, errW_some] <;> rfl), by repeat (first | (with_reducible first | exact HB.out | apply bwA | apply bwN | apply bwD) | exact HB.out)⟩
            ·rw [if_neg c17] at H
             have c17b0 : decide (t234 ≤ t233) = false := decide_eq_false c17
             clear c17
             have H' := Aside0.mk H
             clear H
             have p230 : 0 ≤ (x12_1 : Int) := of_decide_eq_true (by first | (with_reducible assumption) | assumption)
             have q230 : x12_1 < (l0.length : Int) := of_decide_eq_true (by first | (with_reducible assumption) | assumption)
             obtain ⟨ad230, e230, hx230_0⟩ := Kd.at_int HR0.out x12_1 p230 q230
             cases e230
             try replace hx230_0 := (HB.out.cell (World.block_lt_of_cell? w _ hx230_0)).trans hx230_0
             replace p230 := eq_true p230
             replace q230 := eq_true q230
             go_wp2_with (first | ((with_reducible refine gate_callee (f := 60) rfl ?_); refine goesL_ (some 21) rfl rfl Try.func60 (by kernel_rfl) rfl #[.int .i64 (rd l0 x12_1), .int .i64 (wrap64 (-a1)), .int .i64 a1] rfl (by (try simp only [List.map_toArray, List.map_cons, List.map_nil]); first | done | rfl | (simp only [List.length_drop, List.length_take]; rfl)) ?_; (with_reducible refine (impl_in.calls (rd l0 x12_1) (wrap64 (-a1)) a1 true _ A8.out).mono ?_); rintro e w' ⟨rfl, ⟨nd, rfl⟩⟩; refine ⟨_, rfl, ?_⟩; have p232 : 0 ≤ ((ji12) : Int) := of_decide_eq_true (by first | (with_reducible assumption) | assumption); have q232 : (ji12) < (l0.length : Int) := of_decide_eq_true (by first | (with_reducible assumption) | assumption); obtain ⟨ad232, e232, hx232_0⟩ := Kd.at_int HR0.out (ji12) p232 q232; obtain rfl : ad230 = ad232 := (by injection e232); replace hx232_0 := (HB.out.cell (World.block_lt_of_cell? w _ hx232_0)).trans hx232_0; replace p232 := eq_true p232; replace q232 := eq_true q232) | (go_at_call 93; (with_reducible refine (impl_atomOf.calls (rd l0 (ji12)) t233 _ A15.out).mono ?_); rintro e w20 ⟨rfl, hb⟩; have n0_ := Aside0.mk (below_step (by repeat (first | (with_reducible first | exact HB.out | apply bwA | apply bwN | apply bwD) | exact HB.out)) hb); clear HB; have HB := n0_; clear n0_; (try clear hb); (try clear hb2); (try clear hk); (try clear hi)) | (go_at_call 93; (with_reducible refine (impl_atomOf.calls (rd l0 x12_1) t234 _ A16.out).mono ?_); rintro e w21 ⟨rfl, hb⟩; have n0_ := Aside0.mk (below_step (by repeat (first | (with_reducible first | exact HB.out | apply bwA | apply bwN | apply bwD) | exact HB.out)) hb); clear HB; have HB := n0_; clear n0_; (try clear hb); (try clear hb2); (try clear hk); (try clear hi)))
             go_roundg k1
             case measure => have := HK1.out; omega
             case rel => exact ⟨(wrap64 (x12_1 + 1)), (by first | rfl | (simp; done) | (simp [*]; done)), H', ⟨by have := HK1.out; omega⟩, ⟨by repeat (first | (with_reducible first | exact HB.out | apply bwA | apply bwN | apply bwD) | exact HB.out)⟩⟩
           ·rw [if_neg c14] at H
            exact absurd H (by simp)
          ·rw [if_neg c13] at H
           exact absurd H (by simp)
         ·rw [if_neg c11] at H
          have c11b0 : decide (0 < x12_1) = false := decide_eq_false c11
          clear c11
          have H' := Aside0.mk H
          clear H
          have p230 : 0 ≤ (x12_1 : Int) := of_decide_eq_true (by first | (with_reducible assumption) | assumption)
          have q230 : x12_1 < (l0.length : Int) := of_decide_eq_true (by first | (with_reducible assumption) | assumption)
          obtain ⟨ad230, e230, hx230_0⟩ := Kd.at_int HR0.out x12_1 p230 q230
          cases e230
          try replace hx230_0 := (HB.out.cell (World.block_lt_of_cell? w _ hx230_0)).trans hx230_0
          replace p230 := eq_true p230
          replace q230 := eq_true q230
          go_wp2_with (first | ((with_reducible refine gate_callee (f := 60) rfl ?_); refine goesL_ (some 21) rfl rfl Try.func60 (by kernel_rfl) rfl #[.int .i64 (rd l0 x12_1), .int .i64 (wrap64 (-a1)), .int .i64 a1] rfl (by (try simp only [List.map_toArray, List.map_cons, List.map_nil]); first | done | rfl | (simp only [List.length_drop, List.length_take]; rfl)) ?_; (with_reducible refine (impl_in.calls (rd l0 x12_1) (wrap64 (-a1)) a1 true _ A8.out).mono ?_); rintro e w' ⟨rfl, ⟨nd, rfl⟩⟩; refine ⟨_, rfl, ?_⟩))
          go_roundg k1
          case measure => have := HK1.out; omega
          case rel => exact ⟨(wrap64 (x12_1 + 1)), (by first | rfl | (simp; done) | (simp [*]; done)), H', ⟨by have := HK1.out; omega⟩, ⟨by repeat (first | (with_reducible first | exact HB.out | apply bwA | apply bwN | apply bwD) | exact HB.out)⟩⟩
       ·replace c9 := Bool.eq_false_iff.mpr c9
        subst c9
        have H1 : (some false) = some r := by rw [if_neg (show ¬ (false = true) by decide)] at H; exact H
        clear H
        have H := H1
        clear H1
        obtain rfl := Option.some.inj H
        have p230 : 0 ≤ (x12_1 : Int) := of_decide_eq_true (by first | (with_reducible assumption) | assumption)
        have q230 : x12_1 < (l0.length : Int) := of_decide_eq_true (by first | (with_reducible assumption) | assumption)
        obtain ⟨ad230, e230, hx230_0⟩ := Kd.at_int HR0.out x12_1 p230 q230
        cases e230
        try replace hx230_0 := (HB.out.cell (World.block_lt_of_cell? w _ hx230_0)).trans hx230_0
        replace p230 := eq_true p230
        replace q230 := eq_true q230
        go_wp2_with (first | ((with_reducible refine gate_callee (f := 60) rfl ?_); refine goesL_ (some 21) rfl rfl Try.func60 (by kernel_rfl) rfl #[.int .i64 (rd l0 x12_1), .int .i64 (wrap64 (-a1)), .int .i64 a1] rfl (by (try simp only [List.map_toArray, List.map_cons, List.map_nil]); first | done | rfl | (simp only [List.length_drop, List.length_take]; rfl)) ?_; (with_reducible refine (impl_in.calls (rd l0 x12_1) (wrap64 (-a1)) a1 false _ A8.out).mono ?_); rintro e w' ⟨rfl, ⟨nd, rfl⟩⟩; refine ⟨_, rfl, ?_⟩))
        go_ret
        exact ⟨by first | rfl | (simp [errW_none, errW_some] <;> rfl) | (simp [*, errW_none, errW_some] <;> rfl), by repeat (first | (with_reducible first | exact HB.out | apply bwA | apply bwN | apply bwD) | exact HB.out)⟩
      ·rw [if_neg c7] at H
       exact absurd H (by simp)
     ·rw [if_neg c6] at H
      exact absurd H (by simp)
    ·rw [if_neg c5] at H
     have c5b0 : decide (x12_1 < (l0.length : Int)) = false := decide_eq_false c5
     clear c5
     obtain rfl := Option.some.inj H
     go_wp2
     go_ret
     exact ⟨by first | rfl | (simp [errW_none, errW_some] <;> rfl) | (simp [*, errW_none, errW_some] <;> rfl), by repeat (first | (with_reducible first | exact HB.out | apply bwA | apply bwN | apply bwD) | exact HB.out)⟩
 ·replace c4 := Bool.eq_false_iff.mpr c4
  subst c4
  have H1 : (some false) = some r := by rw [if_neg (show ¬ (false = true) by decide)] at H; exact H
  clear H
  have H := H1
  clear H1
  obtain rfl := Option.some.inj H
  go_enter Try.func51, Try.ntmps51
  go_wp2_with (first | ((with_reducible refine gate_callee (f := 60) rfl ?_); refine goesL_ (some 8) rfl rfl Try.func60 (by kernel_rfl) rfl #[.int .i64 a1, .int .i64 0, .int .i64 700] rfl (by (try simp only [List.map_toArray, List.map_cons, List.map_nil]); first | done | rfl | (simp only [List.length_drop, List.length_take]; rfl)) ?_; (with_reducible refine (impl_in.calls a1 0 700 false _ A3.out).mono ?_); rintro e w' ⟨rfl, ⟨nd, rfl⟩⟩; refine ⟨_, rfl, ?_⟩))
  go_ret
  exact ⟨by first | rfl | (simp [errW_none, errW_some] <;> rfl) | (simp [*, errW_none, errW_some] <;> rfl), by repeat (first | (with_reducible first | exact HB.out | apply bwA | apply bwN | apply bwD) | exact HB.out)⟩

/-! ### impl_ClausesValid: function 24 -/
def impl_ClausesValid.p (k : Nat) (a0_0 : Int) (l0_1 : List (List Int)) (i : Int) : Option Bool := (impl_ClauseValid.f k (rd_L1 l0_1 i) a0_0).bind fun b => some (!b)
theorem impl_ClausesValid_pred (k : Nat) (a0_0 : Int) (l0_1 : List (List Int)) (v : Value) (gb : Nat) (w : World) (BK : w.heap[gb]? = some (.cells #[.int .i64 a0_0, v] 29 (0, 0))) :
  ∀ (i : Int), 0 ≤ i → i < l0_1.length → ∀ b, impl_ClausesValid.p k a0_0 l0_1 i = some b → ∀ W, Below w.heap.size w W → ∀ A c, Kd.C (Kd.int .i64) W A (rd_L1 l0_1 i).length (rd_L1 l0_1 i) → (rd_L1 l0_1 i).length ≤ c → Calls Try.prog 62 (#[.slice A (rd_L1 l0_1 i).length c] ++ #[.pointer (some ⟨gb, 0, none⟩)]) W fun e w' => e = .returned (.bool b) ∧ Below W.heap.size W w' := by
 intro i h0 h1 b hb W hW A c hr hc
 obtain ⟨b1, hb1, hb2⟩ := Option.bind_eq_some_iff.mp hb
 obtain rfl := Option.some.inj hb2
 clear hb hb2
 have HC := Aside0.mk (impl_ClauseValid.calls k A c (rd_L1 l0_1 i) a0_0 b1 W hr hc hb1)
 have BK1 := blk_below BK hW
 clear hb1 hr
 have hc0 : W.cell? ⟨gb, 0, none⟩ = some (.int .i64 a0_0) := (blk_cell BK1 0).trans rfl
 have hf0 := blk_frozen BK1 0
 clear BK1 BK hW h0 h1
 show Calls Try.prog 62 #[.slice A (rd_L1 l0_1 i).length c, .pointer (some ⟨gb, 0, none⟩)] W _
 cases b1
 all_goals
  go_enter Try.func62, Try.ntmps62
  go_wp2_with (go_at_call 51; refine HC.out.mono ?_; rintro e w' ⟨rfl, HB1⟩)
  go_ret
  exact ⟨by first | rfl | simp, HB1⟩
def impl_ClausesValid.f (k : Nat) (a0_0 : Int) (l0_1 : List (List Int)) : Option Bool :=
 (impl_in.f a0_0 0 700).bind fun t => if t = true then (if (l0_1.length : Int) ≤ 2500 then ((Copy.idxO (impl_ClausesValid.p k a0_0 l0_1) l0_1.length 0).bind fun r => some (!(decide (0 ≤ r)))) else some false) else some false
theorem impl_ClausesValid.mono : ∀ a0 a1 k, LeO (impl_ClausesValid.f k a0 a1) (impl_ClausesValid.f (k + 1) a0 a1) := by
 intro a0 a1 k
 unfold impl_ClausesValid.f
 refine LeO.bind (LeO.refl _) (fun t => LeO.ite (LeO.ite (LeO.bind (Copy.idxO_le _ _ (fun i => LeO.bind (impl_ClauseValid.mono _ _ k) (fun b => LeO.refl _)) _ _) (fun r => LeO.refl _)) (LeO.refl _)) (LeO.refl _))
set_option maxHeartbeats 400000 in
theorem impl_ClausesValid.calls (k : Nat) (a0_0 : Int) (A0_1 : Option Addr) (c0_1 : Nat) (l0_1 : List (List Int)) (r : Bool) (w : World) (hr0_1 : Kd.C (Kd.slice 3 (Kd.int .i64)) w A0_1 l0_1.length l0_1) (hc0_1 : l0_1.length ≤ c0_1) (h : impl_ClausesValid.f k a0_0 l0_1 = some r) :
  Calls Try.prog 24 #[.agg #[.int .i64 a0_0, .slice A0_1 l0_1.length c0_1]] w fun e w' => e = .returned (.bool r) ∧ Below w.heap.size w w' := by
 have eg : ∀ args w, (callFunc 62 args).run Try.prog w = .ok (.enter 62 args) w := enters_of Try.func62 (by kernel_rfl) rfl
 have hu := Try.underlying29
 unfold impl_ClausesValid.f at h
 obtain ⟨t, h1, h⟩ := Option.bind_eq_some_iff.mp h
 have HI := Aside0.mk h1
 clear h1
 have H := Aside0.mk h
 have HR := Aside0.mk hr0_1
 have EG := eg
 have HB := Aside0.mk (Below.refl w.heap.size w)
 clear h hr0_1 eg
 by_cases c1 : t = true ∧ (l0_1.length : Int) ≤ 2500
 ·obtain ⟨rfl, c2⟩ := c1
  have H1 := H.out
  rw [if_pos rfl, if_pos c2] at H1
  obtain ⟨ri, hi, H1⟩ := Option.bind_eq_some_iff.mp H1
  obtain rfl := Option.some.inj H1
  clear H H1
  have c2b0 : decide ((l0_1.length : Int) ≤ 2500) = true := decide_eq_true c2
  clear c2
  have HI2 := Aside0.mk hi
  clear hi
  generalize hb : decide (0 ≤ ri) = b
  cases b
  all_goals
   have HD := Aside0.mk hb
   clear hb
   go_enter Try.func24, Try.ntmps24
   go_wp2_with (first
    | ((with_reducible refine gate_dst (N := 1) rfl ?_); refine box_event ?hg (N := 1) ?hd (cs := #[.int .i64 a0_0, .slice A0_1 l0_1.length c0_1]) (t := 29) ?hr ?_; (case hd => rfl); (case hg => rfl); (case hr => first | (go_simp; done) | (go_simp; rfl)); intro gb hg w3 hbox hb; have BK := Aside0.mk hbox; have HB := Aside0.mk hb; have hcz0 : w3.cell? ⟨gb, 0, none⟩ = some (.int .i64 a0_0) := (blk_cell BK.out 0).trans rfl; have hcz1 : w3.cell? ⟨gb, 1, none⟩ = some (.slice A0_1 l0_1.length c0_1) := (blk_cell BK.out 1).trans rfl; have hfz0 := blk_frozen BK.out 0; have hfz1 := blk_frozen BK.out 1; clear hg hbox hb)
    | (go_at_call 60; (with_reducible refine (impl_in.calls a0_0 0 700 true _ HI.out).mono ?_); rintro e w' ⟨rfl, ⟨nd, rfl⟩⟩)
    | (go_at_call 61; refine (slices_ContainsFunc_int_int.calls 62 _ EG A0_1 c0_1 l0_1 _ ri _ (Kd.C_drewN (Kd.C_below HR.out HB.out) _) (impl_ClausesValid_pred k a0_0 l0_1 _ gb _ (blk_drewN BK.out _)) HI2.out).mono ?_; rw [HD.out]; rintro e w' ⟨rfl, HB1⟩))
   go_ret
   exact ⟨rfl, below_step (pw_below_drewN HB.out _) HB1⟩
 ·have H1 := H.out
  clear H
  cases t with
  | false =>
   rw [if_neg (by decide)] at H1
   obtain rfl := Option.some.inj H1
   clear H1 c1
   go_enter Try.func24, Try.ntmps24
   go_wp2_with (first
    | ((with_reducible refine gate_dst (N := 1) rfl ?_); refine box_event ?hg (N := 1) ?hd (cs := #[.int .i64 a0_0, .slice A0_1 l0_1.length c0_1]) (t := 29) ?hr ?_; (case hd => rfl); (case hg => rfl); (case hr => first | (go_simp; done) | (go_simp; rfl)); intro gb hg w3 hbox hb; have BK := Aside0.mk hbox; have HB := Aside0.mk hb; have hcz0 : w3.cell? ⟨gb, 0, none⟩ = some (.int .i64 a0_0) := (blk_cell BK.out 0).trans rfl; have hcz1 : w3.cell? ⟨gb, 1, none⟩ = some (.slice A0_1 l0_1.length c0_1) := (blk_cell BK.out 1).trans rfl; have hfz0 := blk_frozen BK.out 0; have hfz1 := blk_frozen BK.out 1; clear hg hbox hb)
    | (go_at_call 60; (with_reducible refine (impl_in.calls a0_0 0 700 false _ HI.out).mono ?_); rintro e w' ⟨rfl, ⟨nd, rfl⟩⟩))
   go_ret
   exact ⟨rfl, pw_below_drewN HB.out _⟩
  | true =>
   have c2 : ¬ ((l0_1.length : Int) ≤ 2500) := fun h => c1 ⟨rfl, h⟩
   rw [if_pos rfl, if_neg c2] at H1
   obtain rfl := Option.some.inj H1
   have c2b0 : decide ((l0_1.length : Int) ≤ 2500) = false := decide_eq_false c2
   clear H1 c1 c2
   go_enter Try.func24, Try.ntmps24
   go_wp2_with (first
    | ((with_reducible refine gate_dst (N := 1) rfl ?_); refine box_event ?hg (N := 1) ?hd (cs := #[.int .i64 a0_0, .slice A0_1 l0_1.length c0_1]) (t := 29) ?hr ?_; (case hd => rfl); (case hg => rfl); (case hr => first | (go_simp; done) | (go_simp; rfl)); intro gb hg w3 hbox hb; have BK := Aside0.mk hbox; have HB := Aside0.mk hb; have hcz0 : w3.cell? ⟨gb, 0, none⟩ = some (.int .i64 a0_0) := (blk_cell BK.out 0).trans rfl; have hcz1 : w3.cell? ⟨gb, 1, none⟩ = some (.slice A0_1 l0_1.length c0_1) := (blk_cell BK.out 1).trans rfl; have hfz0 := blk_frozen BK.out 0; have hfz1 := blk_frozen BK.out 1; clear hg hbox hb)
    | (go_at_call 60; (with_reducible refine (impl_in.calls a0_0 0 700 true _ HI.out).mono ?_); rintro e w' ⟨rfl, ⟨nd, rfl⟩⟩))
   go_ret
   exact ⟨rfl, pw_below_drewN HB.out _⟩

/-! ### slices_Clone_int_int: function 72 -/
def slices_Clone_int_int.f (l0 : List (List Int)) : Option ((List (List Int))) := (some (([] : List (List Int)) : List (List Int))).bind fun y235 => (if y235.length + l0.length < 5864062014805 then (some (y235 ++ l0)) else (none))
set_option maxHeartbeats 8000000 in
set_option maxRecDepth 100000 in
theorem slices_Clone_int_int.calls_s (P0_ : Nat → Prop) (Ad0 : Addr) (c0 : Nat) (l0 : List (List Int)) (r : List (List Int)) (w : World) (hs0 : Kd.V (Kd.slice 3 (Kd.int .i64)) 25 w w.heap.size (fun k_ => P0_ k_) (.slice (some Ad0) l0.length c0) l0) (h : slices_Clone_int_int.f l0 = some r) :
  Calls Try.prog 72 #[.slice (some Ad0) l0.length c0] w fun e w' => ∃ v0_ : Value, e = .returned (v0_) ∧ Kd.N (Kd.slice 3 (Kd.int .i64)) 25 w' w.heap.size (fun k_ => (P0_ k_ ∨ w.heap.size ≤ k_)) v0_ r ∧ Below w.heap.size w w' := by
 have HO0 := Aside0.mk (show Kd.V (Kd.slice 3 (Kd.int .i64)) 25 w w.heap.size (fun k_ => (P0_ k_ ∨ w.heap.size ≤ k_)) (.slice (some Ad0) l0.length c0) l0 from Kd.V_mono hs0 (fun k_ hk => .inl hk))
 have HB := Aside0.mk (Below.refl w.heap.size w)
 have H : ((some (([] : List (List Int)) : List (List Int))).bind fun y235 => (if y235.length + l0.length < 5864062014805 then (some (y235 ++ l0)) else (none))) = some r := h
 clear h
 obtain ⟨y235, hy235⟩ : ∃ y_ : List (List Int), y_ = (([] : List (List Int))) := ⟨_, rfl⟩
 replace H : (if y235.length + l0.length < 5864062014805 then (some (y235 ++ l0)) else (none)) = some r := by first | (rw [hy235]; with_reducible exact H) | (have H2_ := (Option.bind_some _ _).symm.trans H; rw [hy235]; with_reducible exact H2_) | (have H2_ := (Option.bind_some _ _).symm.trans H; with_reducible exact H2_) | with_reducible exact H | (rw [hy235]; exact H) | exact H
 have Ny235 := Aside0.mk hy235
 clear hy235
 by_cases c2 : y235.length + l0.length < 5864062014805
 ·rw [if_pos c2] at H
  have LMc2 := Aside0.mk c2
  clear c2
  obtain ⟨y238, hy238⟩ : ∃ y_ : List (List Int), y_ = (y235 ++ l0) := ⟨_, rfl⟩
  replace H : (some y238) = some r := by first | (rw [hy238]; with_reducible exact H) | (have H2_ := (Option.bind_some _ _).symm.trans H; rw [hy238]; with_reducible exact H2_) | (have H2_ := (Option.bind_some _ _).symm.trans H; with_reducible exact H2_) | with_reducible exact H | (rw [hy238]; exact H) | exact H
  have Ny238 := Aside0.mk hy238
  clear hy238
  obtain rfl := Option.some.inj H
  have hun_ := fun (w_ : World) (A_ : Option Addr) (n_ c_ : Nat) => Copy.eql_nil (P := Try.prog) w_ 22 _ A_ n_ c_ Try.underlying22
  go_enter Try.func72, Try.ntmps72
  go_wp2_with (first | ((with_reducible refine gate_dst (N := 5) rfl ?_); refine Kd.N_lit (Kd.slice 3 (Kd.int .i64)) _ 25 ?hg (N' := 5) ?hd (xs := ([] : List (List Int))) (inner := []) (ok := (fun k_ => (P0_ k_ ∨ w.heap.size ≤ k_))) (okp := (fun k_ => (P0_ k_ ∨ w.heap.size ≤ k_))) ?hr ?hp (fun _ hk => hk) ((show ∀ k_, w.heap.size ≤ k_ → (fun k_ => (P0_ k_ ∨ w.heap.size ≤ k_)) k_ from fun k_ hk => (.inr (Nat.le_trans (below_size (by repeat (first | (with_reducible first | exact HB.out | apply bwA | apply bwN | apply bwD) | exact HB.out))) hk))) _ (Nat.le_refl _)) (Below.refl _ _) (Nat.le_refl _) (by simp) ?_; (case hd => rfl); (case hg => rfl); (case hr => first | (go_simp; done) | (go_simp; rfl)); (case hp => exact (Reps.none _ _)); intro v236 w3 ho4 hb hg_ hnew_; clear hg_ hnew_; (first | rw [← Ny235.out] at ho4 | (simp only [Int.reduceToNat] at ho4; rw [← Ny235.out] at ho4)); have n0_ := Aside0.mk (Kd.V_elder' (by (with_reducible repeat (first | apply Kd.V_alloc | apply Kd.V_drewN | apply Kd.V_drew)); exact HO0.out) (Kd.N_base ho4) hb); have n1_ := Aside0.mk (Kd.N_lower ho4 (below_size (by repeat (first | (with_reducible first | exact HB.out | apply bwA | apply bwN | apply bwD) | exact HB.out)))); have n2_ := Aside0.mk (below_step (by repeat (first | (with_reducible first | exact HB.out | apply bwA | apply bwN | apply bwD) | exact HB.out)) hb); clear HO0; clear HB; have HO0 := n0_; have HO237 := n1_; have HB := n2_; clear n0_ n1_ n2_; clear hb ho4) | ((with_reducible refine gate_builtin (b := .append) (xs := #[.tmp 5, .tmp 6]) rfl ?_); at_builtin; refine Kd.N_append_rows (Kd.slice 3 (Kd.int .i64)) (w0 := w) w.heap.size rfl (.tmp 5) (.tmp 6) 22 25 (.slice none 0 0) 24 rfl Try.underlying22 info25 rfl (by decide) (by omega) v236 y235 l0 _ _ _ (fun k_ => (P0_ k_ ∨ w.heap.size ≤ k_)) (fun k_ => ((fun k_ => (P0_ k_ ∨ w.heap.size ≤ k_))) k_ ∧ some k_ ≠ (v236 : Value).ownBlock) rfl rfl ?aO ?aR (fun _ hk => hk) ?aF ?aB ?aS ?aL ?_; (case aR => exact (by skip; exact Kd.V_F (Kd.V_mono (ok' := (fun k_ => ((fun k_ => (P0_ k_ ∨ w.heap.size ≤ k_))) k_ ∧ some k_ ≠ (v236 : Value).ownBlock)) (HO0.out) (fun k_ hk => ⟨hk.1, hk.2⟩)))); (case aB => exact (by repeat (first | (with_reducible first | exact HB.out | apply bwA | apply bwN | apply bwD) | exact HB.out))); (case aF => exact (fun k_ hk => (.inr (Nat.le_trans (below_size (by repeat (first | (with_reducible first | exact HB.out | apply bwA | apply bwN | apply bwD) | exact HB.out))) hk)))); (case aO => exact (by (with_reducible repeat (first | apply Kd.N_alloc | apply Kd.N_drewN | apply Kd.N_drew)); exact HO237.out)); (case aS => exact (below_size (by repeat (first | (with_reducible first | exact HB.out | apply bwA | apply bwN | apply bwD) | exact HB.out)))); (case aL => have := LMc2.out; omega); intro v239 w5 ho hb hg hat; rw [← Ny238.out] at ho; have n0_ := Aside0.mk (Kd.V_afterv (ok := (fun k_ => (P0_ k_ ∨ w.heap.size ≤ k_))) (by (with_reducible repeat (first | apply Kd.V_alloc | apply Kd.V_drewN | apply Kd.V_drew)); exact HO0.out) hg hat); have n1_ := Aside0.mk (hb); have n2_ := Aside0.mk (ho); clear HO0; clear HB; clear HO237; have HO0 := n0_; have HB := n1_; have HO240 := n2_; clear n0_ n1_ n2_; clear ho hb hg hat))
  go_ret
  exact ⟨_, by first | rfl | (simp [errW_none, errW_some] <;> rfl) | (simp [*, errW_none, errW_some] <;> rfl), by (with_reducible repeat (first | apply Kd.N_alloc | apply Kd.N_drewN | apply Kd.N_drew)); exact HO240.out, by repeat (first | (with_reducible first | exact HB.out | apply bwA | apply bwN | apply bwD) | exact HB.out)⟩
 ·rw [if_neg c2] at H
  exact absurd H (by simp)
set_option maxHeartbeats 8000000 in
set_option maxRecDepth 100000 in
theorem slices_Clone_int_int.calls (P0_ : Nat → Prop) (A0 : Option Addr) (c0 : Nat) (l0 : List (List Int)) (r : List (List Int)) (w : World) (hs0 : Kd.V (Kd.slice 3 (Kd.int .i64)) 25 w w.heap.size (fun k_ => P0_ k_) (.slice A0 l0.length c0) l0) (h : slices_Clone_int_int.f l0 = some r) :
  Calls Try.prog 72 #[.slice A0 l0.length c0] w fun e w' => ∃ v0_ : Value, e = .returned (v0_) ∧ Kd.N (Kd.slice 3 (Kd.int .i64)) 25 w' w.heap.size (fun k_ => (P0_ k_ ∨ w.heap.size ≤ k_)) v0_ r ∧ Below w.heap.size w w' := by
 cases A0 with
 | some ad => exact slices_Clone_int_int.calls_s P0_ ad c0 l0 r w hs0 h
 | none =>
  have hl : l0 = [] := by
   have h_ := (Kd.V_reads' hs0).2.2
   cases l0 with
   | nil => rfl
   | cons x_ xs_ => obtain ⟨ad, e_, _⟩ := h_.2.2 (by simp); cases e_
  subst hl
  have hr_ : [] = r := Option.some.inj ((show slices_Clone_int_int.f [] = some [] by unfold slices_Clone_int_int.f; simp).symm.trans h)
  subst hr_
  clear h hs0
  have hun_ := fun (w_ : World) (A_ : Option Addr) (n_ c_ : Nat) => Copy.eql_nil (P := Try.prog) w_ 22 _ A_ n_ c_ Try.underlying22
  go_enter Try.func72, Try.ntmps72
  go_wp2
  go_ret
  exact ⟨_, rfl, by first | exact Kd.R_nil _ _ _ _ _ | exact Kd.N_nil _ _ _ _ _, Below.refl _ _⟩

/-! ### impl_bit: function 94 -/
def impl_bit.f (a0 : Bool) : Option (Int) := if a0 = true then (some 1) else (some 0)
set_option maxHeartbeats 8000000 in
set_option maxRecDepth 100000 in
theorem impl_bit.calls (a0 : Bool) (r : Int) (w : World) (h : impl_bit.f a0 = some r) :
  Calls Try.prog 94 #[.bool a0] w fun e w' => e = .returned (.int .i64 r) ∧ Drawn0 w w' := by
 have H : (if a0 = true then (some 1) else (some 0)) = some r := h
 clear h
 by_cases c2 : a0 = true
 ·subst c2
  have H1 : (some 1) = some r := by rw [if_pos rfl] at H; exact H
  clear H
  have H := H1
  clear H1
  obtain rfl := Option.some.inj H
  go_enter Try.func94, Try.ntmps94
  go_wp2
  go_ret
  exact ⟨by first | rfl | (simp; done) | (simp [*]; done), by repeat (first | exact Drawn0.refl _ | apply Drawn0.step)⟩
 ·replace c2 := Bool.eq_false_iff.mpr c2
  subst c2
  have H1 : (some 0) = some r := by rw [if_neg (show ¬ (false = true) by decide)] at H; exact H
  clear H
  have H := H1
  clear H1
  obtain rfl := Option.some.inj H
  go_enter Try.func94, Try.ntmps94
  go_wp2
  go_ret
  exact ⟨by first | rfl | (simp; done) | (simp [*]; done), by repeat (first | exact Drawn0.refl _ | apply Drawn0.step)⟩

/-! ### impl_signs: function 52 -/
def impl_signs.l0 : Nat → List Int → List Int → Int → Int → Option (List Int)
 | 0, _, _, _, _ => none
 | k + 1, x5, x11, x12, x13 => if x13 < x12 then (if 0 ≤ x13 then (if x13 < (x11.length : Int) then ((impl_atomOf.f (rd x11 x13)).bind fun t245 => ((impl_bit.f (decide ((rd x11 x13) < 0))).bind fun t246 => (if 0 ≤ t245 then (if t245 < (x5.length : Int) then (impl_signs.l0 k (x5.set (t245 : Int).toNat (wrap64 (1 - (wrap64 (2 * t246))))) x11 x12 (wrap64 (x13 + 1))) else (none)) else (none)))) else (none)) else (none)) else (some x5)
def impl_signs.f (k : Nat) (a0 : Int) (l1 : List Int) : Option (List Int) := if 0 ≤ (wrap64 (a0 + 1)) then (if (wrap64 (a0 + 1) : Int).toNat ≤ 35184372088832 then (impl_signs.l0 k (List.replicate (wrap64 (a0 + 1) : Int).toNat 0) l1 (l1.length : Int) 0) else (none)) else (none)
theorem impl_signs.mono_l : ∀ k, (∀ y0 y1 y2 y3, LeO (impl_signs.l0 k y0 y1 y2 y3) (impl_signs.l0 (k + 1) y0 y1 y2 y3))
 | 0 => fun _ _ _ _ r h => by simp [impl_signs.l0] at h
 | k + 1 => by
  have ih0 := impl_signs.mono_l k
  ·intro y0 y1 y2 y3
   unfold impl_signs.l0
   repeat' first
   | (with_reducible exact ih0 _ _ _ _)
   | (with_reducible exact LeO.refl _)
   | (with_reducible exact LeO.none _)
   | (with_reducible refine LeO.ite ?_ ?_)
   | (with_reducible refine LeO.bind ?_ (fun _ => ?_))
   | exact ih0 _ _ _ _
   | exact LeO.none _
   | refine LeO.ite ?_ ?_
   | refine LeO.bind ?_ (fun _ => ?_)
theorem impl_signs.mono : ∀ a0 a1 k, LeO (impl_signs.f k a0 a1) (impl_signs.f (k + 1) a0 a1) := by
 intro a0 a1 k
 have ih0 := impl_signs.mono_l k
 unfold impl_signs.f
 repeat' first
   | (with_reducible exact ih0 _ _ _ _)
   | (with_reducible exact LeO.refl _)
   | (with_reducible exact LeO.none _)
   | (with_reducible refine LeO.ite ?_ ?_)
   | (with_reducible refine LeO.bind ?_ (fun _ => ?_))
   | exact ih0 _ _ _ _
   | exact LeO.none _
   | refine LeO.ite ?_ ?_
   | refine LeO.bind ?_ (fun _ => ?_)
set_option maxHeartbeats 8000000 in
set_option maxRecDepth 100000 in
theorem impl_signs.calls (k : Nat) (a0 : Int) (A1 : Option Addr) (c1 : Nat) (l1 : List Int) (r : List Int) (w : World) (hr1 : Kd.C (Kd.int .i64) w A1 l1.length l1) (hc1 : l1.length ≤ c1) (h : impl_signs.f k a0 l1 = some r) :
  Calls Try.prog 52 #[.int .i64 a0, .slice A1 l1.length c1] w fun e w' => ∃ v0_ : Value, e = .returned (v0_) ∧ Kd.R (Kd.int .i64) 3 w' w.heap.size (fun _ => True) v0_ r ∧ Below w.heap.size w w' := by
 have HR1 := Aside0.mk hr1
 have HC1 := Aside0.mk hc1
 clear hr1 hc1
 have HB := Aside0.mk (Below.refl w.heap.size w)
 have H : (if 0 ≤ (wrap64 (a0 + 1)) then (if (wrap64 (a0 + 1) : Int).toNat ≤ 35184372088832 then (impl_signs.l0 k (List.replicate (wrap64 (a0 + 1) : Int).toNat 0) l1 (l1.length : Int) 0) else (none)) else (none)) = some r := h
 clear h
 obtain ⟨ji3, hji3⟩ : ∃ j_ : Int, (wrap64 (a0 + 1)) = j_ := ⟨_, rfl⟩
 replace H : (if 0 ≤ (ji3) then (if (ji3 : Int).toNat ≤ 35184372088832 then (impl_signs.l0 k (List.replicate (ji3 : Int).toNat 0) l1 (l1.length : Int) 0) else (none)) else (none)) = some r := by first | (rw [hji3] at H; exact H) | (simp only [hji3] at H ⊢; exact H)
 have hji3w : (IntKind.i64.wrap (a0 + 1)) = ji3 := (i64_w _).trans hji3
 by_cases c4 : 0 ≤ (ji3)
 ·rw [if_pos c4] at H
  have c4b0 := eq_true c4
  have c4b1 : decide (0 ≤ (ji3)) = true := decide_eq_true c4
  clear c4
  by_cases c5 : (ji3 : Int).toNat ≤ 35184372088832
  ·rw [if_pos c5] at H
   have c5b0 := eq_true c5
   have c5b1 : decide ((ji3 : Int).toNat ≤ 35184372088832) = true := decide_eq_true c5
   clear c5
   obtain ⟨y241, hy241⟩ : ∃ y_ : List Int, y_ = (List.replicate (ji3 : Int).toNat 0) := ⟨_, rfl⟩
   replace H : (impl_signs.l0 k y241 l1 (l1.length : Int) 0) = some r := by first | (rw [hy241]; with_reducible exact H) | (have H2_ := (Option.bind_some _ _).symm.trans H; rw [hy241]; with_reducible exact H2_) | (have H2_ := (Option.bind_some _ _).symm.trans H; with_reducible exact H2_) | with_reducible exact H | (rw [hy241]; exact H) | exact H
   have Ny241 := Aside0.mk hy241
   clear hy241
   have H' := Aside0.mk H
   clear H
   go_enter Try.func52, Try.ntmps52
   go_wp2_with (first | ((with_reducible refine gate_dst (N := 10) rfl ?_); refine Kd.R_make (Kd.int .i64) _ 3 rfl (N := 10) rfl 25 _ _ rfl ji3 rfl rfl Try.underlying25 (.int .i64 0) 8 info3 rfl (by decide) (by omega) 0 (ok := fun _ => True) (okp := fun _ => True) rfl (fun _ hk => hk) trivial (of_decide_eq_true (by first | (with_reducible assumption) | assumption)) (Nat.le_trans (Nat.mul_le_mul_right _ (of_decide_eq_true (by first | (with_reducible assumption) | assumption) : ji3.toNat ≤ 35184372088832)) (by omega)) (Below.refl _ _) (Nat.le_refl _) ?_; intro v242 w6 ho7 hb hg_ hnew_; clear hg_ hnew_; (first | rw [← Ny241.out] at ho7 | (simp only [Int.reduceToNat] at ho7; rw [← Ny241.out] at ho7)); have n0_ := Aside0.mk (Kd.R_lower ho7 (below_size (by repeat (first | (with_reducible first | exact HB.out | apply bwA | apply bwN | apply bwD) | exact HB.out)))); have n1_ := Aside0.mk (below_step (by repeat (first | (with_reducible first | exact HB.out | apply bwA | apply bwN | apply bwD) | exact HB.out)) hb); clear HB; have HO243 := n0_; have HB := n1_; clear n0_ n1_; clear hb ho7))
   go_loopg [13] k (fun kq v13 w' => ∃ (x5_1 : List Int) (x13_1 : Int), v13 = .int .i64 x13_1 ∧ Aside0 (impl_signs.l0 kq x5_1 l1 (l1.length : Int) x13_1 = some r) ∧ Aside0 (kq ≤ k) ∧ Aside0 (Kd.R (Kd.int .i64) 3 w' w.heap.size (fun _ => True) v242 x5_1) ∧ Aside0 (Below w.heap.size w w'))
   case atStart => exact ⟨(y241), (0), (by first | rfl | (simp; done) | (simp [*]; done)), H', ⟨Nat.le_refl _⟩, ⟨by (with_reducible repeat (first | apply Kd.R_alloc | apply Kd.R_drewN | apply Kd.R_drew)); exact HO243.out⟩, ⟨by repeat (first | (with_reducible first | exact HB.out | apply bwA | apply bwN | apply bwD) | exact HB.out)⟩⟩
   case round =>
    clear H'
    try clear c1
    try clear p2
    try clear c4
    try clear c4b0
    try clear c4b1
    try clear c5
    try clear c5b0
    try clear c5b1
    try clear p6
    obtain ⟨x5_1, x13_1, rfl, HA, HK1, HO_5, HB⟩ := hrel
    cases gk with
    | zero => exact absurd HA.out (by simp [impl_signs.l0])
    | succ k1 =>
     have H := HA.out
     clear HA
     simp only [impl_signs.l0] at H
     by_cases c8 : x13_1 < (l1.length : Int)
     ·rw [if_pos c8] at H
      have c8b0 : decide (x13_1 < (l1.length : Int)) = true := decide_eq_true c8
      clear c8
      by_cases c9 : 0 ≤ x13_1
      ·rw [if_pos c9] at H
       have c9b0 : decide (0 ≤ x13_1) = true := decide_eq_true c9
       clear c9
       by_cases c10 : x13_1 < (l1.length : Int)
       ·rw [if_pos c10] at H
        have c10b0 : decide (x13_1 < (l1.length : Int)) = true := decide_eq_true c10
        clear c10
        replace H := Option.bind_eq_some_iff.mp H
        obtain ⟨t245, A110, H⟩ := H
        replace H : ((impl_bit.f (decide ((rd l1 x13_1) < 0))).bind fun t246 => (if 0 ≤ t245 then (if t245 < (x5_1.length : Int) then (impl_signs.l0 k1 (x5_1.set (t245 : Int).toNat (wrap64 (1 - (wrap64 (2 * t246))))) l1 (l1.length : Int) (wrap64 (x13_1 + 1))) else (none)) else (none))) = some r := H
        have A11 := Aside0.mk A110
        clear A110
        replace H := Option.bind_eq_some_iff.mp H
        obtain ⟨t246, A120, H⟩ := H
        replace H : (if 0 ≤ t245 then (if t245 < (x5_1.length : Int) then (impl_signs.l0 k1 (x5_1.set (t245 : Int).toNat (wrap64 (1 - (wrap64 (2 * t246))))) l1 (l1.length : Int) (wrap64 (x13_1 + 1))) else (none)) else (none)) = some r := H
        have A12 := Aside0.mk A120
        clear A120
        by_cases c13 : 0 ≤ t245
        ·rw [if_pos c13] at H
         have c13b0 : decide (0 ≤ t245) = true := decide_eq_true c13
         clear c13
         by_cases c14 : t245 < (x5_1.length : Int)
         ·rw [if_pos c14] at H
          have c14b0 : decide (t245 < (x5_1.length : Int)) = true := decide_eq_true c14
          clear c14
          obtain ⟨y247, hy247⟩ : ∃ y_ : List Int, y_ = (x5_1.set (t245 : Int).toNat (wrap64 (1 - (wrap64 (2 * t246))))) := ⟨_, rfl⟩
          replace H : (impl_signs.l0 k1 y247 l1 (l1.length : Int) (wrap64 (x13_1 + 1))) = some r := by first | (rw [hy247]; with_reducible exact H) | (have H2_ := (Option.bind_some _ _).symm.trans H; rw [hy247]; with_reducible exact H2_) | (have H2_ := (Option.bind_some _ _).symm.trans H; with_reducible exact H2_) | with_reducible exact H | (rw [hy247]; exact H) | exact H
          have Ny247 := Aside0.mk hy247
          clear hy247
          have H' := Aside0.mk H
          clear H
          have p244 : 0 ≤ (x13_1 : Int) := of_decide_eq_true (by first | (with_reducible assumption) | assumption)
          have q244 : x13_1 < (l1.length : Int) := of_decide_eq_true (by first | (with_reducible assumption) | assumption)
          obtain ⟨ad244, e244, hx244_0⟩ := Kd.at_int HR1.out x13_1 p244 q244
          cases e244
          try replace hx244_0 := (HB.out.cell (World.block_lt_of_cell? w _ hx244_0)).trans hx244_0
          replace p244 := eq_true p244
          replace q244 := eq_true q244
          go_wp2_with (first | ((with_reducible refine gate_callee (f := 93) rfl ?_); refine goesL_ (some 19) rfl rfl Try.func93 (by kernel_rfl) rfl #[.int .i64 (rd l1 x13_1)] rfl (by (try simp only [List.map_toArray, List.map_cons, List.map_nil]); first | done | rfl | (simp only [List.length_drop, List.length_take]; rfl)) ?_; (with_reducible refine (impl_atomOf.calls (rd l1 x13_1) t245 _ A11.out).mono ?_); rintro e w16 ⟨rfl, hb⟩; refine ⟨_, rfl, ?_⟩; have n0_ := Aside0.mk (Kd.R_below (by (with_reducible repeat (first | apply Kd.R_alloc | apply Kd.R_drewN | apply Kd.R_drew)); exact HO_5.out) hb); have n1_ := Aside0.mk (below_step (by repeat (first | (with_reducible first | exact HB.out | apply bwA | apply bwN | apply bwD) | exact HB.out)) hb); clear HO_5; clear HB; have HO_5 := n0_; have HB := n1_; clear n0_ n1_; (try clear hb); (try clear hb2); (try clear hk); (try clear hi)) | ((with_reducible refine gate_callee (f := 94) rfl ?_); refine goesL_ (some 22) rfl rfl Try.func94 (by kernel_rfl) rfl #[.bool (decide ((rd l1 x13_1) < 0))] rfl (by (try simp only [List.map_toArray, List.map_cons, List.map_nil]); first | done | rfl | (simp only [List.length_drop, List.length_take]; rfl)) ?_; (with_reducible refine (impl_bit.calls (decide ((rd l1 x13_1) < 0)) t246 _ A12.out).mono ?_); rintro e w' ⟨rfl, ⟨nd, rfl⟩⟩; refine ⟨_, rfl, ?_⟩; (try (rw [drewN_self w16]; generalize hq_ : World.drewN w16 _ = w16; have n0_ : Aside0 (Kd.R (Kd.int .i64) 3 w16 w.heap.size (fun _ => True) v242 x5_1) := ⟨by rw [← hq_]; exact (by (with_reducible repeat (first | apply Kd.R_alloc | apply Kd.R_drewN | apply Kd.R_drew)); exact HO_5.out)⟩; have n1_ : Aside0 (Below w.heap.size w w16) := ⟨by rw [← hq_]; exact (by repeat (first | (with_reducible first | exact HB.out | apply bwA | apply bwN | apply bwD) | exact HB.out))⟩; clear HO_5 HB hq_; have HO_5 := n0_; have HB := n1_; clear n0_ n1_)); have p15 : 0 ≤ (t245 : Int) := of_decide_eq_true (by first | (with_reducible assumption) | assumption); have q15 : (t245 : Int) < ((x5_1.length : Int) : Int) := of_decide_eq_true (by first | (with_reducible assumption) | assumption); obtain ⟨go15, co15, eo15, gb15, gl15, cl15, HG15⟩ := Kd.R_form HO_5.out (by omega); (first | cases eo15 | (injection eo15 with ea_ en_ ec_; (first | subst ea_ | (injection ea_ with ea_; subst ea_)); subst ec_; clear en_)); have GB15 := Aside0.mk gb15; have GG15 := Aside0.mk HG15; clear gb15 gl15 HG15; obtain ⟨hx15_0, hf15_0⟩ := Kd.R_celln 0 HO_5.out (t245 : Int) p15 q15; replace p15 := eq_true p15; replace q15 := eq_true q15; obtain ⟨hy17_, hz17_⟩ := Kd.R_celln 0 HO_5.out (t245 : Int) (of_decide_eq_true (by first | (with_reducible assumption) | assumption)) (of_decide_eq_true (by first | (with_reducible assumption) | assumption)); have HP17 := Kd.R_putg HO_5.out (t245 : Int) (wrap64 (1 - (wrap64 (2 * t246))))) | ((with_reducible refine gate_store (t := 3) (p := 25) rfl ?_); refine store_event (t := 3) (p := 25) (v := ?vo_w18) (w1 := (w16.setCell ⟨go15, (t245 : Int).toNat, none⟩ (.int .i64 (wrap64 (1 - (wrap64 (2 * t246))))))) ?hg ?ho ?hn ?hr ?_; (case ho => rfl); (case hg => rfl); (case hn => rfl); (case hr => first | (go_simp; done) | (go_simp; rfl)); intro w18 hw; have hg : w16.grownBy w18 (some go15) := (by rw [hw]; exact HP17.2); have hp_ : Kd.R (Kd.int .i64) 3 w18 w.heap.size (fun _ => True) (.slice (some ⟨go15, 0, none⟩) x5_1.length co15) y247 := (by rw [hw, Ny247.out]; exact HP17.1); clear HP17; have n0_ := Aside0.mk (hp_); have n1_ := Aside0.mk ((by rw [hw]; exact below_set (HB.out) GB15.out : Below w.heap.size w w18)); clear HO_5; clear HB; have HO_5 := n0_; have HB := n1_; clear n0_ n1_; clear hg hw hp_))
          go_roundg k1
          case measure => have := HK1.out; omega
          case rel => exact ⟨(y247), (wrap64 (x13_1 + 1)), (by first | rfl | (simp; done) | (simp [*]; done)), H', ⟨by have := HK1.out; omega⟩, ⟨by (with_reducible repeat (first | apply Kd.R_alloc | apply Kd.R_drewN | apply Kd.R_drew)); exact HO_5.out⟩, ⟨by repeat (first | (with_reducible first | exact HB.out | apply bwA | apply bwN | apply bwD) | exact HB.out)⟩⟩
         ·rw [if_neg c14] at H
          exact absurd H (by simp)
        ·rw [if_neg c13] at H
         exact absurd H (by simp)
       ·rw [if_neg c10] at H
        exact absurd H (by simp)
      ·rw [if_neg c9] at H
       exact absurd H (by simp)
     ·rw [if_neg c8] at H
      have c8b0 : decide (x13_1 < (l1.length : Int)) = false := decide_eq_false c8
      clear c8
      obtain rfl := Option.some.inj H
      go_wp2
      go_ret
      exact ⟨_, by first | rfl | (simp [errW_none, errW_some] <;> rfl) | (simp only [← hji3]; first | rfl | (simp [errW_none, errW_some] <;> rfl)) | (simp [*, errW_none, errW_some] <;> rfl), by (with_reducible repeat (first | apply Kd.R_alloc | apply Kd.R_drewN | apply Kd.R_drew)); exact HO_5.out, by repeat (first | (with_reducible first | exact HB.out | apply bwA | apply bwN | apply bwD) | exact HB.out)⟩
  ·rw [if_neg c5] at H
   exact absurd H (by simp)
 ·rw [if_neg c4] at H
  exact absurd H (by simp)

end Go.Proofs.Ytkfmgfdbdgjfiaa.QFnExactCheckProof
