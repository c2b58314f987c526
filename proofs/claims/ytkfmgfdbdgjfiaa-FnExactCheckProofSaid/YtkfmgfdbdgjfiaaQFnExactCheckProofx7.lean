-- Written by a program of this session (mk.py). Lean checks it.
import Derived.Test.YtkfmgfdbdgjfiaaQFnExactCheckProofx0
import Derived.Test.YtkfmgfdbdgjfiaaQFnExactCheckProofx5
import Derived.Test.YtkfmgfdbdgjfiaaQFnExactCheckProofx6
namespace Go.Proofs.Ytkfmgfdbdgjfiaa.QFnExactCheckProof
open Go.RowKit Go.Proofs.YtkfmgfdbdgjfiaaW.PrintWords Go.Proofs.YtkfmgfdbdgjfiaaW.PrintLast Go.Proofs.YtkfmgfdbdgjfiaaW.PrintMore
attribute [local go_sem] max2_int min2_int max_two min_two max_three min_three max_four min_four   -- for this text's walks alone
set_option linter.unusedVariables false
set_option linter.unusedSimpArgs false

/-! ### impl_forced: function 53 -/
mutual
def impl_forced.l0 : Nat → List (List Int) → List Int → Bool → Option (Bool × List Int)
 | 0, _, _, _ => none
 | k + 1, x0, x1, x5 => if x5 = true then (impl_forced.l1 k x0 x1 false x0 (x0.length : Int) 0) else (some (true, x1))
def impl_forced.l1 : Nat → List (List Int) → List Int → Bool → List (List Int) → Int → Int → Option (Bool × List Int)
 | 0, _, _, _, _, _, _ => none
 | k + 1, x0, x1, x5, x15, x16, x17 => if x17 < x16 then (if 0 ≤ x17 then (if x17 < (x15.length : Int) then (impl_forced.l2 k x0 x1 x5 0 0 false x15 x16 x17 (rd_L1 x15 x17) ((rd_L1 x15 x17).length : Int) 0) else (none)) else (none)) else (impl_forced.l0 k x0 x1 x5)
def impl_forced.l2 : Nat → List (List Int) → List Int → Bool → Int → Int → Bool → List (List Int) → Int → Int → List Int → Int → Int → Option (Bool × List Int)
 | 0, _, _, _, _, _, _, _, _, _, _, _, _ => none
 | k + 1, x0, x1, x5, x8, x9, x10, x15, x16, x17, x21, x22, x23 => if x23 < x22 then (if 0 ≤ x23 then (if x23 < (x21.length : Int) then ((impl_atomOf.f (rd x21 x23)).bind fun t250 => (if 0 ≤ t250 then (if t250 < (x1.length : Int) then (if (rd x1 t250) = 0 then (impl_forced.l2 k x0 x1 x5 (rd x21 x23) (wrap64 (x9 + 1)) x10 x15 x16 x17 x21 x22 (wrap64 (x23 + 1))) else (if ((decide ((rd x1 t250) > 0)) == (decide ((rd x21 x23) > 0))) = true then (impl_forced.l2 k x0 x1 x5 x8 x9 true x15 x16 x17 x21 x22 (wrap64 (x23 + 1))) else (impl_forced.l2 k x0 x1 x5 x8 x9 x10 x15 x16 x17 x21 x22 (wrap64 (x23 + 1))))) else (none)) else (none))) else (none)) else (none)) else (if x10 = true then (impl_forced.l1 k x0 x1 x5 x15 x16 (wrap64 (x17 + 1))) else (if x9 = 0 then (some (false, x1)) else (if x9 = 1 then ((impl_atomOf.f x8).bind fun t252 => ((impl_bit.f (decide (x8 < 0))).bind fun t253 => (if 0 ≤ t252 then (if t252 < (x1.length : Int) then (impl_forced.l1 k x0 (x1.set (t252 : Int).toNat (wrap64 (1 - (wrap64 (2 * t253))))) true x15 x16 (wrap64 (x17 + 1))) else (none)) else (none)))) else (impl_forced.l1 k x0 x1 x5 x15 x16 (wrap64 (x17 + 1))))))
end
def impl_forced.f (k : Nat) (l0 : List (List Int)) (l1 : List Int) : Option (Bool × List Int) := impl_forced.l0 k l0 l1 true
theorem impl_forced.mono_l : ∀ k, (∀ y0 y1 y2, LeO (impl_forced.l0 k y0 y1 y2) (impl_forced.l0 (k + 1) y0 y1 y2)) ∧ (∀ y0 y1 y2 y3 y4 y5, LeO (impl_forced.l1 k y0 y1 y2 y3 y4 y5) (impl_forced.l1 (k + 1) y0 y1 y2 y3 y4 y5)) ∧ (∀ y0 y1 y2 y3 y4 y5 y6 y7 y8 y9 y10 y11, LeO (impl_forced.l2 k y0 y1 y2 y3 y4 y5 y6 y7 y8 y9 y10 y11) (impl_forced.l2 (k + 1) y0 y1 y2 y3 y4 y5 y6 y7 y8 y9 y10 y11))
 | 0 => ⟨fun _ _ _ r h => by simp [impl_forced.l0] at h, fun _ _ _ _ _ _ r h => by simp [impl_forced.l1] at h, fun _ _ _ _ _ _ _ _ _ _ _ _ r h => by simp [impl_forced.l2] at h⟩
 | k + 1 => by
  obtain ⟨ih0, ih1, ih2⟩ := impl_forced.mono_l k
  refine ⟨?_, ?_, ?_⟩
  ·intro y0 y1 y2
   unfold impl_forced.l0
   repeat' first
   | (with_reducible exact ih0 _ _ _)
   | (with_reducible exact ih1 _ _ _ _ _ _)
   | (with_reducible exact ih2 _ _ _ _ _ _ _ _ _ _ _ _)
   | (with_reducible exact LeO.refl _)
   | (with_reducible exact LeO.none _)
   | (with_reducible refine LeO.ite ?_ ?_)
   | (with_reducible refine LeO.bind ?_ (fun _ => ?_))
   | exact ih0 _ _ _
   | exact ih1 _ _ _ _ _ _
   | exact ih2 _ _ _ _ _ _ _ _ _ _ _ _
   | exact LeO.none _
   | refine LeO.ite ?_ ?_
   | refine LeO.bind ?_ (fun _ => ?_)
  ·intro y0 y1 y2 y3 y4 y5
   unfold impl_forced.l1
   repeat' first
   | (with_reducible exact ih0 _ _ _)
   | (with_reducible exact ih1 _ _ _ _ _ _)
   | (with_reducible exact ih2 _ _ _ _ _ _ _ _ _ _ _ _)
   | (with_reducible exact LeO.refl _)
   | (with_reducible exact LeO.none _)
   | (with_reducible refine LeO.ite ?_ ?_)
   | (with_reducible refine LeO.bind ?_ (fun _ => ?_))
   | exact ih0 _ _ _
   | exact ih1 _ _ _ _ _ _
   | exact ih2 _ _ _ _ _ _ _ _ _ _ _ _
   | exact LeO.none _
   | refine LeO.ite ?_ ?_
   | refine LeO.bind ?_ (fun _ => ?_)
  ·intro y0 y1 y2 y3 y4 y5 y6 y7 y8 y9 y10 y11
   unfold impl_forced.l2
   repeat' first
   | (with_reducible exact ih0 _ _ _)
   | (with_reducible exact ih1 _ _ _ _ _ _)
   | (with_reducible exact ih2 _ _ _ _ _ _ _ _ _ _ _ _)
   | (with_reducible exact LeO.refl _)
   | (with_reducible exact LeO.none _)
   | (with_reducible refine LeO.ite ?_ ?_)
   | (with_reducible refine LeO.bind ?_ (fun _ => ?_))
   | exact ih0 _ _ _
   | exact ih1 _ _ _ _ _ _
   | exact ih2 _ _ _ _ _ _ _ _ _ _ _ _
   | exact LeO.none _
   | refine LeO.ite ?_ ?_
   | refine LeO.bind ?_ (fun _ => ?_)
theorem impl_forced.mono : ∀ a0 a1 k, LeO (impl_forced.f k a0 a1) (impl_forced.f (k + 1) a0 a1) := by
 intro a0 a1 k
 obtain ⟨ih0, ih1, ih2⟩ := impl_forced.mono_l k
 unfold impl_forced.f
 repeat' first
   | (with_reducible exact ih0 _ _ _)
   | (with_reducible exact ih1 _ _ _ _ _ _)
   | (with_reducible exact ih2 _ _ _ _ _ _ _ _ _ _ _ _)
   | (with_reducible exact LeO.refl _)
   | (with_reducible exact LeO.none _)
   | (with_reducible refine LeO.ite ?_ ?_)
   | (with_reducible refine LeO.bind ?_ (fun _ => ?_))
   | exact ih0 _ _ _
   | exact ih1 _ _ _ _ _ _
   | exact ih2 _ _ _ _ _ _ _ _ _ _ _ _
   | exact LeO.none _
   | refine LeO.ite ?_ ?_
   | refine LeO.bind ?_ (fun _ => ?_)
set_option maxHeartbeats 8000000 in
set_option maxRecDepth 100000 in
theorem impl_forced.calls (k : Nat) (A0 : Option Addr) (c0 : Nat) (l0 : List (List Int)) (P1_ : Nat → Prop) (u9000_ : Value) (l1 : List Int) (r1 : Bool) (r2 : List Int) (w0 w : World) (hB : Below w0.heap.size w0 w) (hr0 : ∀ W_, Kept w W_ (fun k_ => P1_ k_) → Kd.C (Kd.slice 3 (Kd.int .i64)) W_ A0 l0.length l0) (hc0 : l0.length ≤ c0) (ho1 : Kd.R (Kd.int .i64) 3 w w0.heap.size P1_ u9000_ l1) (h : impl_forced.f k l0 l1 = some (r1, r2)) :
  Calls Try.prog 53 #[.slice A0 l0.length c0, u9000_] w fun e w' => e = .returned (.bool r1) ∧ Kd.R (Kd.int .i64) 3 w' w0.heap.size (fun k_ => (P1_ k_ ∨ w.heap.size ≤ k_)) u9000_ r2 ∧ Below w0.heap.size w0 w' ∧ Kept w w' (fun k_ => P1_ k_) := by
 have HR0 := Aside0.mk hr0
 have HC0 := Aside0.mk hc0
 clear hr0 hc0
 have HO1 := Aside0.mk (show Kd.R (Kd.int .i64) 3 w w0.heap.size (fun k_ => (P1_ k_ ∨ w.heap.size ≤ k_)) u9000_ l1 from Kd.R_mono ho1 (fun k_ hk => (.inl hk)))
 have HK := Aside0.mk (Kept.refl w (fun k_ => P1_ k_))
 have HW0 := Aside0.mk hB.size
 have HB := Aside0.mk hB
 clear hB
 have H : (impl_forced.l0 k l0 l1 true) = some (r1, r2) := h
 clear h
 have H' := Aside0.mk H
 clear H
 go_enter Try.func53, Try.ntmps53
 go_wp2
 go_loopg [5] k (fun kq v5 w' => ∃ (x1_1 : List Int) (x5_1 : Bool), v5 = .bool x5_1 ∧ Aside0 (impl_forced.l0 kq l0 x1_1 x5_1 = some (r1, r2)) ∧ Aside0 (kq ≤ k) ∧ Aside0 (Kd.R (Kd.int .i64) 3 w' w0.heap.size (fun k_ => (P1_ k_ ∨ w.heap.size ≤ k_)) u9000_ x1_1) ∧ Aside0 (Kept w w' (fun k_ => P1_ k_)) ∧ Aside0 (Below w0.heap.size w0 w'))
 case atStart => exact ⟨(l1), (true), (by first | rfl | (simp; done) | (simp [*]; done)), H', ⟨Nat.le_refl _⟩, ⟨by (with_reducible repeat (first | apply Kd.R_alloc | apply Kd.R_drewN | apply Kd.R_drew)); exact HO1.out⟩, ⟨by repeat (first | (with_reducible first | exact HK.out | apply Kept.alloc | apply Kept.drewN | apply Kept.drew) | exact HK.out)⟩, ⟨by repeat (first | (with_reducible first | exact HB.out | apply bwA | apply bwN | apply bwD) | exact HB.out)⟩⟩
 case round =>
  clear H'
  try clear p2
  obtain ⟨x1_1, x5_1, rfl, HA, HK1, HO_1, HK, HB⟩ := hrel
  cases gk with
  | zero => exact absurd HA.out (by simp [impl_forced.l0])
  | succ k1 =>
   have H := HA.out
   clear HA
   simp only [impl_forced.l0] at H
   by_cases c3 : x5_1 = true
   ·subst c3
    have H1 : (impl_forced.l1 k1 l0 x1_1 false l0 (l0.length : Int) 0) = some (r1, r2) := by rw [if_pos rfl] at H; exact H
    clear H
    have H := H1
    clear H1
    have H' := Aside0.mk H
    clear H
    go_wp2
    go_loopg [5, 17] k1 (fun kq v5 v17 w' => ∃ (x1_2 : List Int) (x5_2 : Bool) (x17_2 : Int), v5 = .bool x5_2 ∧ v17 = .int .i64 x17_2 ∧ Aside0 (impl_forced.l1 kq l0 x1_2 x5_2 l0 (l0.length : Int) x17_2 = some (r1, r2)) ∧ Aside0 (kq ≤ k1) ∧ Aside0 (Kd.R (Kd.int .i64) 3 w' w0.heap.size (fun k_ => (P1_ k_ ∨ w.heap.size ≤ k_)) u9000_ x1_2) ∧ Aside0 (Kept w w' (fun k_ => P1_ k_)) ∧ Aside0 (Below w0.heap.size w0 w'))
    case atStart => exact ⟨(x1_1), (false), (0), (by first | rfl | (simp; done) | (simp [*]; done)), (by first | rfl | (simp; done) | (simp [*]; done)), H', ⟨Nat.le_refl _⟩, ⟨by (with_reducible repeat (first | apply Kd.R_alloc | apply Kd.R_drewN | apply Kd.R_drew)); exact HO_1.out⟩, ⟨by repeat (first | (with_reducible first | exact HK.out | apply Kept.alloc | apply Kept.drewN | apply Kept.drew) | exact HK.out)⟩, ⟨by repeat (first | (with_reducible first | exact HB.out | apply bwA | apply bwN | apply bwD) | exact HB.out)⟩⟩
    case round =>
     clear H'
     try clear p2
     try clear c3
     try clear p2
     obtain ⟨x1_2, x5_2, x17_2, rfl, rfl, HA, HK2, HO_1, HK, HB⟩ := hrel
     cases gk with
     | zero => exact absurd HA.out (by simp [impl_forced.l1])
     | succ k2 =>
      have H := HA.out
      clear HA
      simp only [impl_forced.l1] at H
      by_cases c4 : x17_2 < (l0.length : Int)
      ·rw [if_pos c4] at H
       have c4b0 : decide (x17_2 < (l0.length : Int)) = true := decide_eq_true c4
       clear c4
       by_cases c5 : 0 ≤ x17_2
       ·rw [if_pos c5] at H
        have c5b0 : decide (0 ≤ x17_2) = true := decide_eq_true c5
        clear c5
        by_cases c6 : x17_2 < (l0.length : Int)
        ·rw [if_pos c6] at H
         have c6b0 : decide (x17_2 < (l0.length : Int)) = true := decide_eq_true c6
         clear c6
         have H' := Aside0.mk H
         clear H
         have p248 : 0 ≤ (x17_2 : Int) := of_decide_eq_true (by first | (with_reducible assumption) | assumption)
         have q248 : x17_2 < (l0.length : Int) := of_decide_eq_true (by first | (with_reducible assumption) | assumption)
         obtain ⟨ad248, A248_0, c248_0, e248, hx248_0, hl248_0, hi248_0⟩ := at_L1 (Kd.C_kept_now HR0.out HK.out) x17_2 p248 q248
         cases e248
         have HR248_0 := Aside0.mk hi248_0
         have HC248_0 := Aside0.mk hl248_0
         clear hi248_0 hl248_0
         replace p248 := eq_true p248
         replace q248 := eq_true q248
         go_wp2
         go_loopg [8, 9, 10, 23] k2 (fun kq v8 v9 v10 v23 w' => ∃ (x8_3 : Int) (x9_3 : Int) (x10_3 : Bool) (x23_3 : Int), v8 = .int .i64 x8_3 ∧ v9 = .int .i64 x9_3 ∧ v10 = .bool x10_3 ∧ v23 = .int .i64 x23_3 ∧ Aside0 (impl_forced.l2 kq l0 x1_2 x5_2 x8_3 x9_3 x10_3 l0 (l0.length : Int) x17_2 (rd_L1 l0 x17_2) ((rd_L1 l0 x17_2).length : Int) x23_3 = some (r1, r2)) ∧ Aside0 (kq ≤ k2) ∧ Aside0 (Kd.R (Kd.int .i64) 3 w' w0.heap.size (fun k_ => (P1_ k_ ∨ w.heap.size ≤ k_)) u9000_ x1_2) ∧ Aside0 (Kd.C (Kd.int .i64) w' A248_0 (rd_L1 l0 x17_2).length (rd_L1 l0 x17_2)) ∧ Aside0 (Kept w w' (fun k_ => P1_ k_)) ∧ Aside0 (Below w0.heap.size w0 w'))
         case atStart => exact ⟨(0), (0), (false), (0), (by first | rfl | (simp; done) | (simp [*]; done)), (by first | rfl | (simp; done) | (simp [*]; done)), (by first | rfl | (simp; done) | (simp [*]; done)), (by first | rfl | (simp; done) | (simp [*]; done)), H', ⟨Nat.le_refl _⟩, ⟨by (with_reducible repeat (first | apply Kd.R_alloc | apply Kd.R_drewN | apply Kd.R_drew)); exact HO_1.out⟩, ⟨by repeat (first | (with_reducible exact HR248_0.out) | (with_reducible refine Kd.C_alloc ?_ _) | (with_reducible refine Kd.C_drewN ?_ _) | (with_reducible refine Kd.C_drew ?_) | exact HR248_0.out)⟩, ⟨by repeat (first | (with_reducible first | exact HK.out | apply Kept.alloc | apply Kept.drewN | apply Kept.drew) | exact HK.out)⟩, ⟨by repeat (first | (with_reducible first | exact HB.out | apply bwA | apply bwN | apply bwD) | exact HB.out)⟩⟩
         case round =>
          clear H'
          try clear c2
          try clear p2
          try clear q2
          try clear hx2
          try clear c3
          try clear c4
          try clear c4b0
          try clear c5
          try clear c5b0
          try clear c6
          try clear c6b0
          try clear hx248_0
          try clear p2
          try clear p248
          try clear q248
          obtain ⟨x8_3, x9_3, x10_3, x23_3, rfl, rfl, rfl, rfl, HA, HK3, HO_1, HR248_0, HK, HB⟩ := hrel
          cases gk with
          | zero => exact absurd HA.out (by simp [impl_forced.l2])
          | succ k3 =>
           have H := HA.out
           clear HA
           simp only [impl_forced.l2] at H
           by_cases c7 : x23_3 < ((rd_L1 l0 x17_2).length : Int)
           ·rw [if_pos c7] at H
            have c7b0 : decide (x23_3 < ((rd_L1 l0 x17_2).length : Int)) = true := decide_eq_true c7
            clear c7
            by_cases c8 : 0 ≤ x23_3
            ·rw [if_pos c8] at H
             have c8b0 : decide (0 ≤ x23_3) = true := decide_eq_true c8
             clear c8
             by_cases c9 : x23_3 < ((rd_L1 l0 x17_2).length : Int)
             ·rw [if_pos c9] at H
              have c9b0 : decide (x23_3 < ((rd_L1 l0 x17_2).length : Int)) = true := decide_eq_true c9
              clear c9
              replace H := Option.bind_eq_some_iff.mp H
              obtain ⟨t250, A100, H⟩ := H
              replace H : (if 0 ≤ t250 then (if t250 < (x1_2.length : Int) then (if (rd x1_2 t250) = 0 then (impl_forced.l2 k3 l0 x1_2 x5_2 (rd (rd_L1 l0 x17_2) x23_3) (wrap64 (x9_3 + 1)) x10_3 l0 (l0.length : Int) x17_2 (rd_L1 l0 x17_2) ((rd_L1 l0 x17_2).length : Int) (wrap64 (x23_3 + 1))) else (if ((decide ((rd x1_2 t250) > 0)) == (decide ((rd (rd_L1 l0 x17_2) x23_3) > 0))) = true then (impl_forced.l2 k3 l0 x1_2 x5_2 x8_3 x9_3 true l0 (l0.length : Int) x17_2 (rd_L1 l0 x17_2) ((rd_L1 l0 x17_2).length : Int) (wrap64 (x23_3 + 1))) else (impl_forced.l2 k3 l0 x1_2 x5_2 x8_3 x9_3 x10_3 l0 (l0.length : Int) x17_2 (rd_L1 l0 x17_2) ((rd_L1 l0 x17_2).length : Int) (wrap64 (x23_3 + 1))))) else (none)) else (none)) = some (r1, r2) := H
              have A10 := Aside0.mk A100
              clear A100
              by_cases c11 : 0 ≤ t250
              ·rw [if_pos c11] at H
               have c11b0 : decide (0 ≤ t250) = true := decide_eq_true c11
               clear c11
               by_cases c12 : t250 < (x1_2.length : Int)
               ·rw [if_pos c12] at H
                have c12b0 : decide (t250 < (x1_2.length : Int)) = true := decide_eq_true c12
                clear c12
                by_cases c13 : (rd x1_2 t250) = 0
                ·rw [if_pos c13] at H
                 have c13b0 : ((rd x1_2 t250) == 0) = true := beq_iff_eq.mpr c13
                 have c13b1 : ((rd x1_2 t250) != 0) = false := bne_eq_false_iff_eq.mpr c13
                 clear c13
                 have H' := Aside0.mk H
                 clear H
                 have p249 : 0 ≤ (x23_3 : Int) := of_decide_eq_true (by first | (with_reducible assumption) | assumption)
                 have q249 : x23_3 < ((rd_L1 l0 x17_2).length : Int) := of_decide_eq_true (by first | (with_reducible assumption) | assumption)
                 obtain ⟨ad249, e249, hx249_0⟩ := Kd.at_int HR248_0.out x23_3 p249 q249
                 cases e249
                 try replace hx249_0 := (HB.out.cell (World.block_lt_of_cell? w _ hx249_0)).trans hx249_0
                 replace p249 := eq_true p249
                 replace q249 := eq_true q249
                 go_wp2_with (first | ((with_reducible refine gate_callee (f := 93) rfl ?_); refine goesL_ (some 29) rfl rfl Try.func93 (by kernel_rfl) rfl #[.int .i64 (rd (rd_L1 l0 x17_2) x23_3)] rfl (by (try simp only [List.map_toArray, List.map_cons, List.map_nil]); first | done | rfl | (simp only [List.length_drop, List.length_take]; rfl)) ?_; (with_reducible refine (impl_atomOf.calls (rd (rd_L1 l0 x17_2) x23_3) t250 _ A10.out).mono ?_); rintro e w14 ⟨rfl, hb⟩; refine ⟨_, rfl, ?_⟩; have n0_ := Aside0.mk (Kd.R_below (by (with_reducible repeat (first | apply Kd.R_alloc | apply Kd.R_drewN | apply Kd.R_drew)); exact HO_1.out) hb); have n1_ := Aside0.mk (Kd.C_below (by repeat (first | (with_reducible exact HR248_0.out) | (with_reducible refine Kd.C_alloc ?_ _) | (with_reducible refine Kd.C_drewN ?_ _) | (with_reducible refine Kd.C_drew ?_) | exact HR248_0.out)) hb); have n2_ := Aside0.mk (Kept.below (S := (fun k_ => P1_ k_)) (by repeat (first | (with_reducible first | exact HK.out | apply Kept.alloc | apply Kept.drewN | apply Kept.drew) | exact HK.out)) hb); have n3_ := Aside0.mk (below_step (by repeat (first | (with_reducible first | exact HB.out | apply bwA | apply bwN | apply bwD) | exact HB.out)) hb); clear HO_1; clear HR248_0; clear HK; clear HB; have HO_1 := n0_; have HR248_0 := n1_; have HK := n2_; have HB := n3_; clear n0_ n1_ n2_ n3_; (try clear hb); (try clear hb2); (try clear hk); (try clear hi); obtain ⟨Ao15, co15, eo15⟩ := Kd.R_slice HO_1.out; subst eo15; have p251 : 0 ≤ (t250 : Int) := of_decide_eq_true (by first | (with_reducible assumption) | assumption); have q251 : t250 < (x1_2.length : Int) := of_decide_eq_true (by first | (with_reducible assumption) | assumption); obtain ⟨ad251, e251, hx251_0⟩ := Kd.at_int (Kd.R_reads' HO_1.out).2.2 t250 p251 q251; cases e251; replace p251 := eq_true p251; replace q251 := eq_true q251))
                 go_roundg k3
                 case measure => have := HK1.out; have := HK2.out; have := HK3.out; omega
                 case rel => exact ⟨(rd (rd_L1 l0 x17_2) x23_3), (wrap64 (x9_3 + 1)), (x10_3), (wrap64 (x23_3 + 1)), (by first | rfl | (simp; done) | (simp [*]; done)), (by first | rfl | (simp; done) | (simp [*]; done)), (by first | rfl | (simp; done) | (simp [*]; done)), (by first | rfl | (simp; done) | (simp [*]; done)), H', ⟨by have := HK1.out; have := HK2.out; have := HK3.out; omega⟩, ⟨by (with_reducible repeat (first | apply Kd.R_alloc | apply Kd.R_drewN | apply Kd.R_drew)); exact HO_1.out⟩, ⟨by repeat (first | (with_reducible exact HR248_0.out) | (with_reducible refine Kd.C_alloc ?_ _) | (with_reducible refine Kd.C_drewN ?_ _) | (with_reducible refine Kd.C_drew ?_) | exact HR248_0.out)⟩, ⟨by repeat (first | (with_reducible first | exact HK.out | apply Kept.alloc | apply Kept.drewN | apply Kept.drew) | exact HK.out)⟩, ⟨by repeat (first | (with_reducible first | exact HB.out | apply bwA | apply bwN | apply bwD) | exact HB.out)⟩⟩
                ·rw [if_neg c13] at H
                 have c13b0 : ((rd x1_2 t250) == 0) = false := beq_eq_false_iff_ne.mpr c13
                 have c13b1 : ((rd x1_2 t250) != 0) = true := bne_iff_ne.mpr c13
                 by_cases c16 : ((decide ((rd x1_2 t250) > 0)) == (decide ((rd (rd_L1 l0 x17_2) x23_3) > 0))) = true
                 ·rw [if_pos c16] at H
                  have c16b0 : ((decide ((rd x1_2 t250) > 0)) == (decide ((rd (rd_L1 l0 x17_2) x23_3) > 0))) = true := c16
                  (try (have c16b1 : decide ((decide ((rd x1_2 t250) > 0)) = (decide ((rd (rd_L1 l0 x17_2) x23_3) > 0))) = true := by simpa using c16))
                  (try (have c16b2 : ((decide ((rd x1_2 t250) > 0)) == (decide ((rd (rd_L1 l0 x17_2) x23_3) > 0))) = true := by simpa using c16))
                  clear c16
                  have H' := Aside0.mk H
                  clear H
                  have p249 : 0 ≤ (x23_3 : Int) := of_decide_eq_true (by first | (with_reducible assumption) | assumption)
                  have q249 : x23_3 < ((rd_L1 l0 x17_2).length : Int) := of_decide_eq_true (by first | (with_reducible assumption) | assumption)
                  obtain ⟨ad249, e249, hx249_0⟩ := Kd.at_int HR248_0.out x23_3 p249 q249
                  cases e249
                  try replace hx249_0 := (HB.out.cell (World.block_lt_of_cell? w _ hx249_0)).trans hx249_0
                  replace p249 := eq_true p249
                  replace q249 := eq_true q249
                  go_wp2_with (first | ((with_reducible refine gate_callee (f := 93) rfl ?_); refine goesL_ (some 29) rfl rfl Try.func93 (by kernel_rfl) rfl #[.int .i64 (rd (rd_L1 l0 x17_2) x23_3)] rfl (by (try simp only [List.map_toArray, List.map_cons, List.map_nil]); first | done | rfl | (simp only [List.length_drop, List.length_take]; rfl)) ?_; (with_reducible refine (impl_atomOf.calls (rd (rd_L1 l0 x17_2) x23_3) t250 _ A10.out).mono ?_); rintro e w17 ⟨rfl, hb⟩; refine ⟨_, rfl, ?_⟩; have n0_ := Aside0.mk (Kd.R_below (by (with_reducible repeat (first | apply Kd.R_alloc | apply Kd.R_drewN | apply Kd.R_drew)); exact HO_1.out) hb); have n1_ := Aside0.mk (Kd.C_below (by repeat (first | (with_reducible exact HR248_0.out) | (with_reducible refine Kd.C_alloc ?_ _) | (with_reducible refine Kd.C_drewN ?_ _) | (with_reducible refine Kd.C_drew ?_) | exact HR248_0.out)) hb); have n2_ := Aside0.mk (Kept.below (S := (fun k_ => P1_ k_)) (by repeat (first | (with_reducible first | exact HK.out | apply Kept.alloc | apply Kept.drewN | apply Kept.drew) | exact HK.out)) hb); have n3_ := Aside0.mk (below_step (by repeat (first | (with_reducible first | exact HB.out | apply bwA | apply bwN | apply bwD) | exact HB.out)) hb); clear HO_1; clear HR248_0; clear HK; clear HB; have HO_1 := n0_; have HR248_0 := n1_; have HK := n2_; have HB := n3_; clear n0_ n1_ n2_ n3_; (try clear hb); (try clear hb2); (try clear hk); (try clear hi); obtain ⟨Ao18, co18, eo18⟩ := Kd.R_slice HO_1.out; subst eo18; have p251 : 0 ≤ (t250 : Int) := of_decide_eq_true (by first | (with_reducible assumption) | assumption); have q251 : t250 < (x1_2.length : Int) := of_decide_eq_true (by first | (with_reducible assumption) | assumption); obtain ⟨ad251, e251, hx251_0⟩ := Kd.at_int (Kd.R_reads' HO_1.out).2.2 t250 p251 q251; cases e251; replace p251 := eq_true p251; replace q251 := eq_true q251))
                  go_roundg k3
                  case measure => have := HK1.out; have := HK2.out; have := HK3.out; omega
                  case rel => exact ⟨(x8_3), (x9_3), (true), (wrap64 (x23_3 + 1)), (by first | rfl | (simp; done) | (simp [*]; done)), (by first | rfl | (simp; done) | (simp [*]; done)), (by first | rfl | (simp; done) | (simp [*]; done)), (by first | rfl | (simp; done) | (simp [*]; done)), H', ⟨by have := HK1.out; have := HK2.out; have := HK3.out; omega⟩, ⟨by (with_reducible repeat (first | apply Kd.R_alloc | apply Kd.R_drewN | apply Kd.R_drew)); exact HO_1.out⟩, ⟨by repeat (first | (with_reducible exact HR248_0.out) | (with_reducible refine Kd.C_alloc ?_ _) | (with_reducible refine Kd.C_drewN ?_ _) | (with_reducible refine Kd.C_drew ?_) | exact HR248_0.out)⟩, ⟨by repeat (first | (with_reducible first | exact HK.out | apply Kept.alloc | apply Kept.drewN | apply Kept.drew) | exact HK.out)⟩, ⟨by repeat (first | (with_reducible first | exact HB.out | apply bwA | apply bwN | apply bwD) | exact HB.out)⟩⟩
                 ·rw [if_neg c16] at H
                  have c16b0 : ((decide ((rd x1_2 t250) > 0)) == (decide ((rd (rd_L1 l0 x17_2) x23_3) > 0))) = false := by simpa using c16
                  (try (have c16b1 : decide ((decide ((rd x1_2 t250) > 0)) = (decide ((rd (rd_L1 l0 x17_2) x23_3) > 0))) = false := by simpa using c16))
                  (try (have c16b2 : ((decide ((rd x1_2 t250) > 0)) == (decide ((rd (rd_L1 l0 x17_2) x23_3) > 0))) = false := by simpa using c16))
                  (try (have c16b3 : ¬ ((decide ((rd x1_2 t250) > 0)) = (decide ((rd (rd_L1 l0 x17_2) x23_3) > 0))) := by simpa using c16))
                  clear c16
                  have H' := Aside0.mk H
                  clear H
                  have p249 : 0 ≤ (x23_3 : Int) := of_decide_eq_true (by first | (with_reducible assumption) | assumption)
                  have q249 : x23_3 < ((rd_L1 l0 x17_2).length : Int) := of_decide_eq_true (by first | (with_reducible assumption) | assumption)
                  obtain ⟨ad249, e249, hx249_0⟩ := Kd.at_int HR248_0.out x23_3 p249 q249
                  cases e249
                  try replace hx249_0 := (HB.out.cell (World.block_lt_of_cell? w _ hx249_0)).trans hx249_0
                  replace p249 := eq_true p249
                  replace q249 := eq_true q249
                  go_wp2_with (first | ((with_reducible refine gate_callee (f := 93) rfl ?_); refine goesL_ (some 29) rfl rfl Try.func93 (by kernel_rfl) rfl #[.int .i64 (rd (rd_L1 l0 x17_2) x23_3)] rfl (by (try simp only [List.map_toArray, List.map_cons, List.map_nil]); first | done | rfl | (simp only [List.length_drop, List.length_take]; rfl)) ?_; (with_reducible refine (impl_atomOf.calls (rd (rd_L1 l0 x17_2) x23_3) t250 _ A10.out).mono ?_); rintro e w19 ⟨rfl, hb⟩; refine ⟨_, rfl, ?_⟩; have n0_ := Aside0.mk (Kd.R_below (by (with_reducible repeat (first | apply Kd.R_alloc | apply Kd.R_drewN | apply Kd.R_drew)); exact HO_1.out) hb); have n1_ := Aside0.mk (Kd.C_below (by repeat (first | (with_reducible exact HR248_0.out) | (with_reducible refine Kd.C_alloc ?_ _) | (with_reducible refine Kd.C_drewN ?_ _) | (with_reducible refine Kd.C_drew ?_) | exact HR248_0.out)) hb); have n2_ := Aside0.mk (Kept.below (S := (fun k_ => P1_ k_)) (by repeat (first | (with_reducible first | exact HK.out | apply Kept.alloc | apply Kept.drewN | apply Kept.drew) | exact HK.out)) hb); have n3_ := Aside0.mk (below_step (by repeat (first | (with_reducible first | exact HB.out | apply bwA | apply bwN | apply bwD) | exact HB.out)) hb); clear HO_1; clear HR248_0; clear HK; clear HB; have HO_1 := n0_; have HR248_0 := n1_; have HK := n2_; have HB := n3_; clear n0_ n1_ n2_ n3_; (try clear hb); (try clear hb2); (try clear hk); (try clear hi); obtain ⟨Ao20, co20, eo20⟩ := Kd.R_slice HO_1.out; subst eo20; have p251 : 0 ≤ (t250 : Int) := of_decide_eq_true (by first | (with_reducible assumption) | assumption); have q251 : t250 < (x1_2.length : Int) := of_decide_eq_true (by first | (with_reducible assumption) | assumption); obtain ⟨ad251, e251, hx251_0⟩ := Kd.at_int (Kd.R_reads' HO_1.out).2.2 t250 p251 q251; cases e251; replace p251 := eq_true p251; replace q251 := eq_true q251))
                  go_roundg k3
                  case measure => have := HK1.out; have := HK2.out; have := HK3.out; omega
                  case rel => exact ⟨(x8_3), (x9_3), (x10_3), (wrap64 (x23_3 + 1)), (by first | rfl | (simp; done) | (simp [*]; done)), (by first | rfl | (simp; done) | (simp [*]; done)), (by first | rfl | (simp; done) | (simp [*]; done)), (by first | rfl | (simp; done) | (simp [*]; done)), H', ⟨by have := HK1.out; have := HK2.out; have := HK3.out; omega⟩, ⟨by (with_reducible repeat (first | apply Kd.R_alloc | apply Kd.R_drewN | apply Kd.R_drew)); exact HO_1.out⟩, ⟨by repeat (first | (with_reducible exact HR248_0.out) | (with_reducible refine Kd.C_alloc ?_ _) | (with_reducible refine Kd.C_drewN ?_ _) | (with_reducible refine Kd.C_drew ?_) | exact HR248_0.out)⟩, ⟨by repeat (first | (with_reducible first | exact HK.out | apply Kept.alloc | apply Kept.drewN | apply Kept.drew) | exact HK.out)⟩, ⟨by repeat (first | (with_reducible first | exact HB.out | apply bwA | apply bwN | apply bwD) | exact HB.out)⟩⟩
               ·rw [if_neg c12] at H
                exact absurd H (by simp)
              ·rw [if_neg c11] at H
               exact absurd H (by simp)
             ·rw [if_neg c9] at H
              exact absurd H (by simp)
            ·rw [if_neg c8] at H
             exact absurd H (by simp)
           ·rw [if_neg c7] at H
            have c7b0 : decide (x23_3 < ((rd_L1 l0 x17_2).length : Int)) = false := decide_eq_false c7
            clear c7
            by_cases c21 : x10_3 = true
            ·subst c21
             have H1 : (impl_forced.l1 k3 l0 x1_2 x5_2 l0 (l0.length : Int) (wrap64 (x17_2 + 1))) = some (r1, r2) := by rw [if_pos rfl] at H; exact H
             clear H
             have H := H1
             clear H1
             have H' := Aside0.mk H
             clear H
             go_wp2
             go_roundg k3
             case measure => have := HK1.out; have := HK2.out; have := HK3.out; omega
             case rel => exact ⟨(x1_2), (x5_2), (wrap64 (x17_2 + 1)), (by first | rfl | (simp; done) | (simp [*]; done)), (by first | rfl | (simp; done) | (simp [*]; done)), H', ⟨by have := HK1.out; have := HK2.out; have := HK3.out; omega⟩, ⟨by (with_reducible repeat (first | apply Kd.R_alloc | apply Kd.R_drewN | apply Kd.R_drew)); exact HO_1.out⟩, ⟨by repeat (first | (with_reducible first | exact HK.out | apply Kept.alloc | apply Kept.drewN | apply Kept.drew) | exact HK.out)⟩, ⟨by repeat (first | (with_reducible first | exact HB.out | apply bwA | apply bwN | apply bwD) | exact HB.out)⟩⟩
            ·replace c21 := Bool.eq_false_iff.mpr c21
             subst c21
             have H1 : (if x9_3 = 0 then (some (false, x1_2)) else (if x9_3 = 1 then ((impl_atomOf.f x8_3).bind fun t252 => ((impl_bit.f (decide (x8_3 < 0))).bind fun t253 => (if 0 ≤ t252 then (if t252 < (x1_2.length : Int) then (impl_forced.l1 k3 l0 (x1_2.set (t252 : Int).toNat (wrap64 (1 - (wrap64 (2 * t253))))) true l0 (l0.length : Int) (wrap64 (x17_2 + 1))) else (none)) else (none)))) else (impl_forced.l1 k3 l0 x1_2 x5_2 l0 (l0.length : Int) (wrap64 (x17_2 + 1))))) = some (r1, r2) := by rw [if_neg (show ¬ (false = true) by decide)] at H; exact H
             clear H
             have H := H1
             clear H1
             by_cases c22 : x9_3 = 0
             ·rw [if_pos c22] at H
              have c22b0 : (x9_3 == 0) = true := beq_iff_eq.mpr c22
              have c22b1 : (x9_3 != 0) = false := bne_eq_false_iff_eq.mpr c22
              clear c22
              simp only [Option.some.injEq, Prod.mk.injEq] at H
              obtain ⟨rfl, rfl⟩ := H
              go_wp2
              go_ret
              exact ⟨by first | rfl | (simp [errW_none, errW_some] <;> rfl) | (simp [*, errW_none, errW_some] <;> rfl), by (with_reducible repeat (first | apply Kd.R_alloc | apply Kd.R_drewN | apply Kd.R_drew)); exact HO_1.out, by repeat (first | (with_reducible first | exact HB.out | apply bwA | apply bwN | apply bwD) | exact HB.out), by repeat (first | (with_reducible first | exact HK.out | apply Kept.alloc | apply Kept.drewN | apply Kept.drew) | exact HK.out)⟩
             ·rw [if_neg c22] at H
              have c22b0 : (x9_3 == 0) = false := beq_eq_false_iff_ne.mpr c22
              have c22b1 : (x9_3 != 0) = true := bne_iff_ne.mpr c22
              by_cases c23 : x9_3 = 1
              ·rw [if_pos c23] at H
               have c23b0 : (x9_3 == 1) = true := beq_iff_eq.mpr c23
               have c23b1 : (x9_3 != 1) = false := bne_eq_false_iff_eq.mpr c23
               clear c23
               replace H := Option.bind_eq_some_iff.mp H
               obtain ⟨t252, A240, H⟩ := H
               replace H : ((impl_bit.f (decide (x8_3 < 0))).bind fun t253 => (if 0 ≤ t252 then (if t252 < (x1_2.length : Int) then (impl_forced.l1 k3 l0 (x1_2.set (t252 : Int).toNat (wrap64 (1 - (wrap64 (2 * t253))))) true l0 (l0.length : Int) (wrap64 (x17_2 + 1))) else (none)) else (none))) = some (r1, r2) := H
               have A24 := Aside0.mk A240
               clear A240
               replace H := Option.bind_eq_some_iff.mp H
               obtain ⟨t253, A250, H⟩ := H
               replace H : (if 0 ≤ t252 then (if t252 < (x1_2.length : Int) then (impl_forced.l1 k3 l0 (x1_2.set (t252 : Int).toNat (wrap64 (1 - (wrap64 (2 * t253))))) true l0 (l0.length : Int) (wrap64 (x17_2 + 1))) else (none)) else (none)) = some (r1, r2) := H
               have A25 := Aside0.mk A250
               clear A250
               by_cases c26 : 0 ≤ t252
               ·rw [if_pos c26] at H
                have c26b0 : decide (0 ≤ t252) = true := decide_eq_true c26
                clear c26
                by_cases c27 : t252 < (x1_2.length : Int)
                ·rw [if_pos c27] at H
                 have c27b0 : decide (t252 < (x1_2.length : Int)) = true := decide_eq_true c27
                 clear c27
                 obtain ⟨y254, hy254⟩ : ∃ y_ : List Int, y_ = (x1_2.set (t252 : Int).toNat (wrap64 (1 - (wrap64 (2 * t253))))) := ⟨_, rfl⟩
                 replace H : (impl_forced.l1 k3 l0 y254 true l0 (l0.length : Int) (wrap64 (x17_2 + 1))) = some (r1, r2) := by first | (rw [hy254]; with_reducible exact H) | (have H2_ := (Option.bind_some _ _).symm.trans H; rw [hy254]; with_reducible exact H2_) | (have H2_ := (Option.bind_some _ _).symm.trans H; with_reducible exact H2_) | with_reducible exact H | (rw [hy254]; exact H) | exact H
                 have Ny254 := Aside0.mk hy254
                 clear hy254
                 have H' := Aside0.mk H
                 clear H
                 go_wp2_with (first | ((with_reducible refine gate_callee (f := 93) rfl ?_); refine goesL_ (some 55) rfl rfl Try.func93 (by kernel_rfl) rfl #[.int .i64 x8_3] rfl (by (try simp only [List.map_toArray, List.map_cons, List.map_nil]); first | done | rfl | (simp only [List.length_drop, List.length_take]; rfl)) ?_; (with_reducible refine (impl_atomOf.calls x8_3 t252 _ A24.out).mono ?_); rintro e w29 ⟨rfl, hb⟩; refine ⟨_, rfl, ?_⟩; have n0_ := Aside0.mk (Kd.R_below (by (with_reducible repeat (first | apply Kd.R_alloc | apply Kd.R_drewN | apply Kd.R_drew)); exact HO_1.out) hb); have n1_ := Aside0.mk (Kd.C_below (by repeat (first | (with_reducible exact HR248_0.out) | (with_reducible refine Kd.C_alloc ?_ _) | (with_reducible refine Kd.C_drewN ?_ _) | (with_reducible refine Kd.C_drew ?_) | exact HR248_0.out)) hb); have n2_ := Aside0.mk (Kept.below (S := (fun k_ => P1_ k_)) (by repeat (first | (with_reducible first | exact HK.out | apply Kept.alloc | apply Kept.drewN | apply Kept.drew) | exact HK.out)) hb); have n3_ := Aside0.mk (below_step (by repeat (first | (with_reducible first | exact HB.out | apply bwA | apply bwN | apply bwD) | exact HB.out)) hb); clear HO_1; clear HR248_0; clear HK; clear HB; have HO_1 := n0_; have HR248_0 := n1_; have HK := n2_; have HB := n3_; clear n0_ n1_ n2_ n3_; (try clear hb); (try clear hb2); (try clear hk); (try clear hi)) | ((with_reducible refine gate_callee (f := 94) rfl ?_); refine goesL_ (some 58) rfl rfl Try.func94 (by kernel_rfl) rfl #[.bool (decide (x8_3 < 0))] rfl (by (try simp only [List.map_toArray, List.map_cons, List.map_nil]); first | done | rfl | (simp only [List.length_drop, List.length_take]; rfl)) ?_; (with_reducible refine (impl_bit.calls (decide (x8_3 < 0)) t253 _ A25.out).mono ?_); rintro e w' ⟨rfl, ⟨nd, rfl⟩⟩; refine ⟨_, rfl, ?_⟩; (try (rw [drewN_self w29]; generalize hq_ : World.drewN w29 _ = w29; have n0_ : Aside0 (Kd.R (Kd.int .i64) 3 w29 w0.heap.size (fun k_ => (P1_ k_ ∨ w.heap.size ≤ k_)) u9000_ x1_2) := ⟨by rw [← hq_]; exact (by (with_reducible repeat (first | apply Kd.R_alloc | apply Kd.R_drewN | apply Kd.R_drew)); exact HO_1.out)⟩; have n1_ : Aside0 (Kept w w29 (fun k_ => P1_ k_)) := ⟨by rw [← hq_]; exact (by repeat (first | (with_reducible first | exact HK.out | apply Kept.alloc | apply Kept.drewN | apply Kept.drew) | exact HK.out))⟩; have n2_ : Aside0 (Below w0.heap.size w0 w29) := ⟨by rw [← hq_]; exact (by repeat (first | (with_reducible first | exact HB.out | apply bwA | apply bwN | apply bwD) | exact HB.out))⟩; have n3_ : Aside0 (Kd.C (Kd.int .i64) w29 A248_0 (rd_L1 l0 x17_2).length (rd_L1 l0 x17_2)) := ⟨by rw [← hq_]; exact (by repeat (first | (with_reducible exact HR248_0.out) | (with_reducible refine Kd.C_alloc ?_ _) | (with_reducible refine Kd.C_drewN ?_ _) | (with_reducible refine Kd.C_drew ?_) | exact HR248_0.out))⟩; clear HO_1 HK HB HR248_0 hq_; have HO_1 := n0_; have HK := n1_; have HB := n2_; have HR248_0 := n3_; clear n0_ n1_ n2_ n3_)); have p28 : 0 ≤ (t252 : Int) := of_decide_eq_true (by first | (with_reducible assumption) | assumption); have q28 : (t252 : Int) < ((x1_2.length : Int) : Int) := of_decide_eq_true (by first | (with_reducible assumption) | assumption); obtain ⟨go28, co28, eo28, gb28, gl28, cl28, HG28⟩ := Kd.R_form HO_1.out (by omega); (first | cases eo28 | (injection eo28 with ea_ en_ ec_; (first | subst ea_ | (injection ea_ with ea_; subst ea_)); subst ec_; clear en_)); have GB28 := Aside0.mk gb28; have GG28 := Aside0.mk HG28; clear gb28 gl28 HG28; have HMgo28 := Aside0.mk (show (P1_ go28 ∨ w.heap.size ≤ go28) from (HO_1.out.1 _ rfl)); obtain ⟨hx28_0, hf28_0⟩ := Kd.R_celln 0 HO_1.out (t252 : Int) p28 q28; replace p28 := eq_true p28; replace q28 := eq_true q28; obtain ⟨hy30_, hz30_⟩ := Kd.R_celln 0 HO_1.out (t252 : Int) (of_decide_eq_true (by first | (with_reducible assumption) | assumption)) (of_decide_eq_true (by first | (with_reducible assumption) | assumption)); have HP30 := Kd.R_putg HO_1.out (t252 : Int) (wrap64 (1 - (wrap64 (2 * t253))))) | ((with_reducible refine gate_store (t := 3) (p := 61) rfl ?_); refine store_event (t := 3) (p := 61) (v := ?vo_w31) (w1 := (w29.setCell ⟨go28, (t252 : Int).toNat, none⟩ (.int .i64 (wrap64 (1 - (wrap64 (2 * t253))))))) ?hg ?ho ?hn ?hr ?_; (case ho => rfl); (case hg => rfl); (case hn => rfl); (case hr => first | (go_simp; done) | (go_simp; rfl)); intro w31 hw; have hg : w29.grownBy w31 (some go28) := (by rw [hw]; exact HP30.2); have hp_ : Kd.R (Kd.int .i64) 3 w31 w0.heap.size (fun k_ => (P1_ k_ ∨ w.heap.size ≤ k_)) (.slice (some ⟨go28, 0, none⟩) x1_2.length co28) y254 := (by rw [hw, Ny254.out]; exact HP30.1); clear HP30; have n0_ := Aside0.mk (hp_); have n1_ := Aside0.mk ((by rw [hw]; exact below_set (HB.out) GB28.out : Below w0.heap.size w0 w31)); have n2_ := Aside0.mk (Kept.of_grown (S := (fun k_ => P1_ k_)) hg (by repeat (first | (with_reducible first | exact HK.out | apply Kept.alloc | apply Kept.drewN | apply Kept.drew) | exact HK.out)) (fun k_ e_ => (HO_1.out.1 k_ e_))); clear HO_1; clear HB; clear HK; have HO_1 := n0_; have HB := n1_; have HK := n2_; clear n0_ n1_ n2_; clear hg hw hp_))
                 go_roundg k3
                 case measure => have := HK1.out; have := HK2.out; have := HK3.out; omega
                 case rel => exact ⟨(y254), (true), (wrap64 (x17_2 + 1)), (by first | rfl | (simp; done) | (simp [*]; done)), (by first | rfl | (simp; done) | (simp [*]; done)), H', ⟨by have := HK1.out; have := HK2.out; have := HK3.out; omega⟩, ⟨by (with_reducible repeat (first | apply Kd.R_alloc | apply Kd.R_drewN | apply Kd.R_drew)); exact HO_1.out⟩, ⟨by repeat (first | (with_reducible first | exact HK.out | apply Kept.alloc | apply Kept.drewN | apply Kept.drew) | exact HK.out)⟩, ⟨by repeat (first | (with_reducible first | exact HB.out | apply bwA | apply bwN | apply bwD) | exact HB.out)⟩⟩
                ·rw [if_neg c27] at H
                 exact absurd H (by simp)
               ·rw [if_neg c26] at H
                exact absurd H (by simp)
              ·rw [if_neg c23] at H
               have c23b0 : (x9_3 == 1) = false := beq_eq_false_iff_ne.mpr c23
               have c23b1 : (x9_3 != 1) = true := bne_iff_ne.mpr c23
               have H' := Aside0.mk H
               clear H
               go_wp2
               go_roundg k3
               case measure => have := HK1.out; have := HK2.out; have := HK3.out; omega
               case rel => exact ⟨(x1_2), (x5_2), (wrap64 (x17_2 + 1)), (by first | rfl | (simp; done) | (simp [*]; done)), (by first | rfl | (simp; done) | (simp [*]; done)), H', ⟨by have := HK1.out; have := HK2.out; have := HK3.out; omega⟩, ⟨by (with_reducible repeat (first | apply Kd.R_alloc | apply Kd.R_drewN | apply Kd.R_drew)); exact HO_1.out⟩, ⟨by repeat (first | (with_reducible first | exact HK.out | apply Kept.alloc | apply Kept.drewN | apply Kept.drew) | exact HK.out)⟩, ⟨by repeat (first | (with_reducible first | exact HB.out | apply bwA | apply bwN | apply bwD) | exact HB.out)⟩⟩
        ·rw [if_neg c6] at H
         exact absurd H (by simp)
       ·rw [if_neg c5] at H
        exact absurd H (by simp)
      ·rw [if_neg c4] at H
       have c4b0 : decide (x17_2 < (l0.length : Int)) = false := decide_eq_false c4
       clear c4
       have H' := Aside0.mk H
       clear H
       go_wp2
       go_roundg k2
       case measure => have := HK1.out; have := HK2.out; omega
       case rel => exact ⟨(x1_2), (x5_2), (by first | rfl | (simp; done) | (simp [*]; done)), H', ⟨by have := HK1.out; have := HK2.out; omega⟩, ⟨by (with_reducible repeat (first | apply Kd.R_alloc | apply Kd.R_drewN | apply Kd.R_drew)); exact HO_1.out⟩, ⟨by repeat (first | (with_reducible first | exact HK.out | apply Kept.alloc | apply Kept.drewN | apply Kept.drew) | exact HK.out)⟩, ⟨by repeat (first | (with_reducible first | exact HB.out | apply bwA | apply bwN | apply bwD) | exact HB.out)⟩⟩
   ·replace c3 := Bool.eq_false_iff.mpr c3
    subst c3
    have H1 : (some (true, x1_1)) = some (r1, r2) := by rw [if_neg (show ¬ (false = true) by decide)] at H; exact H
    clear H
    have H := H1
    clear H1
    simp only [Option.some.injEq, Prod.mk.injEq] at H
    obtain ⟨rfl, rfl⟩ := H
    go_wp2
    go_ret
    exact ⟨by first | rfl | (simp [errW_none, errW_some] <;> rfl) | (simp [*, errW_none, errW_some] <;> rfl), by (with_reducible repeat (first | apply Kd.R_alloc | apply Kd.R_drewN | apply Kd.R_drew)); exact HO_1.out, by repeat (first | (with_reducible first | exact HB.out | apply bwA | apply bwN | apply bwD) | exact HB.out), by repeat (first | (with_reducible first | exact HK.out | apply Kept.alloc | apply Kept.drewN | apply Kept.drew) | exact HK.out)⟩

/-! ### impl_stepHolds: function 107 -/
def impl_stepHolds.l0 : Nat → List (List Int) → List Int → List Int → Int → Int → Option (Bool)
 | 0, _, _, _, _, _ => none
 | k + 1, x1, x7, x12, x13, x14 => if x14 < x13 then (if 0 ≤ x14 then (if x14 < (x12.length : Int) then ((impl_atomOf.f (rd x12 x14)).bind fun t259 => ((impl_bit.f (decide ((rd x12 x14) > 0))).bind fun t260 => (if 0 ≤ t259 then (if t259 < (x7.length : Int) then (impl_stepHolds.l0 k x1 (x7.set (t259 : Int).toNat (wrap64 (1 - (wrap64 (2 * t260))))) x12 x13 (wrap64 (x14 + 1))) else (none)) else (none)))) else (none)) else (none)) else ((impl_forced.f k x1 x7).bind fun bt262 => (some (!bt262.1)))
def impl_stepHolds.f (k : Nat) (a0 : Int) (l1 : List (List Int)) (l2 : List Int) : Option (Bool) := (impl_signs.f k a0 ([] : List Int)).bind fun t255 => (impl_stepHolds.l0 k l1 t255 l2 (l2.length : Int) 0)
theorem impl_stepHolds.mono_l : ∀ k, (∀ y0 y1 y2 y3 y4, LeO (impl_stepHolds.l0 k y0 y1 y2 y3 y4) (impl_stepHolds.l0 (k + 1) y0 y1 y2 y3 y4))
 | 0 => fun _ _ _ _ _ r h => by simp [impl_stepHolds.l0] at h
 | k + 1 => by
  have ih0 := impl_stepHolds.mono_l k
  ·intro y0 y1 y2 y3 y4
   unfold impl_stepHolds.l0
   repeat' first
   | (with_reducible exact ih0 _ _ _ _ _)
   | (with_reducible exact impl_forced.mono _ _ _)
   | (with_reducible exact impl_signs.mono _ _ _)
   | (with_reducible exact LeO.refl _)
   | (with_reducible exact LeO.none _)
   | (with_reducible refine LeO.ite ?_ ?_)
   | (with_reducible refine LeO.bind ?_ (fun _ => ?_))
   | exact ih0 _ _ _ _ _
   | exact impl_forced.mono _ _ _
   | exact impl_signs.mono _ _ _
   | exact LeO.none _
   | refine LeO.ite ?_ ?_
   | refine LeO.bind ?_ (fun _ => ?_)
theorem impl_stepHolds.mono : ∀ a0 a1 a2 k, LeO (impl_stepHolds.f k a0 a1 a2) (impl_stepHolds.f (k + 1) a0 a1 a2) := by
 intro a0 a1 a2 k
 have ih0 := impl_stepHolds.mono_l k
 unfold impl_stepHolds.f
 repeat' first
   | (with_reducible exact ih0 _ _ _ _ _)
   | (with_reducible exact impl_forced.mono _ _ _)
   | (with_reducible exact impl_signs.mono _ _ _)
   | (with_reducible exact LeO.refl _)
   | (with_reducible exact LeO.none _)
   | (with_reducible refine LeO.ite ?_ ?_)
   | (with_reducible refine LeO.bind ?_ (fun _ => ?_))
   | exact ih0 _ _ _ _ _
   | exact impl_forced.mono _ _ _
   | exact impl_signs.mono _ _ _
   | exact LeO.none _
   | refine LeO.ite ?_ ?_
   | refine LeO.bind ?_ (fun _ => ?_)
set_option maxHeartbeats 8000000 in
set_option maxRecDepth 100000 in
theorem impl_stepHolds.calls (k : Nat) (a0 : Int) (A1 : Option Addr) (c1 : Nat) (l1 : List (List Int)) (A2 : Option Addr) (c2 : Nat) (l2 : List Int) (r : Bool) (w : World) (hr1 : Kd.C (Kd.slice 3 (Kd.int .i64)) w A1 l1.length l1) (hc1 : l1.length ≤ c1) (hr2 : Kd.C (Kd.int .i64) w A2 l2.length l2) (hc2 : l2.length ≤ c2) (h : impl_stepHolds.f k a0 l1 l2 = some r) :
  Calls Try.prog 107 #[.int .i64 a0, .slice A1 l1.length c1, .slice A2 l2.length c2] w fun e w' => e = .returned (.bool r) ∧ Below w.heap.size w w' := by
 have HR1 := Aside0.mk hr1
 have HC1 := Aside0.mk hc1
 clear hr1 hc1
 have HR2 := Aside0.mk hr2
 have HC2 := Aside0.mk hc2
 clear hr2 hc2
 have HB := Aside0.mk (Below.refl w.heap.size w)
 have H : ((impl_signs.f k a0 ([] : List Int)).bind fun t255 => (impl_stepHolds.l0 k l1 t255 l2 (l2.length : Int) 0)) = some r := h
 clear h
 replace H := Option.bind_eq_some_iff.mp H
 obtain ⟨t255, A40, H⟩ := H
 replace H : (impl_stepHolds.l0 k l1 t255 l2 (l2.length : Int) 0) = some r := H
 have A4 := Aside0.mk A40
 clear A40
 have H' := Aside0.mk H
 clear H
 go_enter Try.func107, Try.ntmps107
 go_wp2_with (first | ((with_reducible refine gate_callee (f := 52) rfl ?_); refine goesL_ (some 11) rfl rfl Try.func52 (by kernel_rfl) rfl #[.int .i64 a0, .slice none 0 0] rfl (by (try simp only [List.map_toArray, List.map_cons, List.map_nil]); first | done | rfl | (simp only [List.length_drop, List.length_take]; rfl)) ?_; (refine (impl_signs.calls k a0 _ _ ([] : List Int) t255 _ ?side1 ?side2 A4.out).mono ?_); (case side1 => exact Kd.C_nil _ _); (case side2 => exact Nat.le_refl _); rintro e w5 ⟨v256, rfl, ho0, hb⟩; refine ⟨_, rfl, ?_⟩; have n0_ := Aside0.mk (Kd.R_lower ho0 (below_size (by repeat (first | (with_reducible first | exact HB.out | apply bwA | apply bwN | apply bwD) | exact HB.out)))); have n1_ := Aside0.mk (below_step (by repeat (first | (with_reducible first | exact HB.out | apply bwA | apply bwN | apply bwD) | exact HB.out)) hb); clear HB; have HO257 := n0_; have HB := n1_; clear n0_ n1_; (try clear hb); (try clear hb2); (try clear hk); (try clear hi); (try clear ho0)))
 go_loopg [14] k (fun kq v14 w' => ∃ (x7_1 : List Int) (x14_1 : Int), v14 = .int .i64 x14_1 ∧ Aside0 (impl_stepHolds.l0 kq l1 x7_1 l2 (l2.length : Int) x14_1 = some r) ∧ Aside0 (kq ≤ k) ∧ Aside0 (Kd.R (Kd.int .i64) 3 w' w.heap.size (fun _ => True) v256 x7_1) ∧ Aside0 (Below w.heap.size w w'))
 case atStart => exact ⟨(t255), (0), (by first | rfl | (simp; done) | (simp [*]; done)), H', ⟨Nat.le_refl _⟩, ⟨by (with_reducible repeat (first | apply Kd.R_alloc | apply Kd.R_drewN | apply Kd.R_drew)); exact HO257.out⟩, ⟨by repeat (first | (with_reducible first | exact HB.out | apply bwA | apply bwN | apply bwD) | exact HB.out)⟩⟩
 case round =>
  clear H'
  try clear c1
  try clear c2
  try clear p2
  try clear c5
  obtain ⟨x7_1, x14_1, rfl, HA, HK1, HO_7, HB⟩ := hrel
  cases gk with
  | zero => exact absurd HA.out (by simp [impl_stepHolds.l0])
  | succ k1 =>
   have H := HA.out
   clear HA
   simp only [impl_stepHolds.l0] at H
   by_cases c6 : x14_1 < (l2.length : Int)
   ·rw [if_pos c6] at H
    have c6b0 : decide (x14_1 < (l2.length : Int)) = true := decide_eq_true c6
    clear c6
    by_cases c7 : 0 ≤ x14_1
    ·rw [if_pos c7] at H
     have c7b0 : decide (0 ≤ x14_1) = true := decide_eq_true c7
     clear c7
     by_cases c8 : x14_1 < (l2.length : Int)
     ·rw [if_pos c8] at H
      have c8b0 : decide (x14_1 < (l2.length : Int)) = true := decide_eq_true c8
      clear c8
      replace H := Option.bind_eq_some_iff.mp H
      obtain ⟨t259, A90, H⟩ := H
      replace H : ((impl_bit.f (decide ((rd l2 x14_1) > 0))).bind fun t260 => (if 0 ≤ t259 then (if t259 < (x7_1.length : Int) then (impl_stepHolds.l0 k1 l1 (x7_1.set (t259 : Int).toNat (wrap64 (1 - (wrap64 (2 * t260))))) l2 (l2.length : Int) (wrap64 (x14_1 + 1))) else (none)) else (none))) = some r := H
      have A9 := Aside0.mk A90
      clear A90
      replace H := Option.bind_eq_some_iff.mp H
      obtain ⟨t260, A100, H⟩ := H
      replace H : (if 0 ≤ t259 then (if t259 < (x7_1.length : Int) then (impl_stepHolds.l0 k1 l1 (x7_1.set (t259 : Int).toNat (wrap64 (1 - (wrap64 (2 * t260))))) l2 (l2.length : Int) (wrap64 (x14_1 + 1))) else (none)) else (none)) = some r := H
      have A10 := Aside0.mk A100
      clear A100
      by_cases c11 : 0 ≤ t259
      ·rw [if_pos c11] at H
       have c11b0 : decide (0 ≤ t259) = true := decide_eq_true c11
       clear c11
       by_cases c12 : t259 < (x7_1.length : Int)
       ·rw [if_pos c12] at H
        have c12b0 : decide (t259 < (x7_1.length : Int)) = true := decide_eq_true c12
        clear c12
        obtain ⟨y261, hy261⟩ : ∃ y_ : List Int, y_ = (x7_1.set (t259 : Int).toNat (wrap64 (1 - (wrap64 (2 * t260))))) := ⟨_, rfl⟩
        replace H : (impl_stepHolds.l0 k1 l1 y261 l2 (l2.length : Int) (wrap64 (x14_1 + 1))) = some r := by first | (rw [hy261]; with_reducible exact H) | (have H2_ := (Option.bind_some _ _).symm.trans H; rw [hy261]; with_reducible exact H2_) | (have H2_ := (Option.bind_some _ _).symm.trans H; with_reducible exact H2_) | with_reducible exact H | (rw [hy261]; exact H) | exact H
        have Ny261 := Aside0.mk hy261
        clear hy261
        have H' := Aside0.mk H
        clear H
        have p258 : 0 ≤ (x14_1 : Int) := of_decide_eq_true (by first | (with_reducible assumption) | assumption)
        have q258 : x14_1 < (l2.length : Int) := of_decide_eq_true (by first | (with_reducible assumption) | assumption)
        obtain ⟨ad258, e258, hx258_0⟩ := Kd.at_int HR2.out x14_1 p258 q258
        cases e258
        try replace hx258_0 := (HB.out.cell (World.block_lt_of_cell? w _ hx258_0)).trans hx258_0
        replace p258 := eq_true p258
        replace q258 := eq_true q258
        go_wp2_with (first | ((with_reducible refine gate_callee (f := 93) rfl ?_); refine goesL_ (some 20) rfl rfl Try.func93 (by kernel_rfl) rfl #[.int .i64 (rd l2 x14_1)] rfl (by (try simp only [List.map_toArray, List.map_cons, List.map_nil]); first | done | rfl | (simp only [List.length_drop, List.length_take]; rfl)) ?_; (with_reducible refine (impl_atomOf.calls (rd l2 x14_1) t259 _ A9.out).mono ?_); rintro e w14 ⟨rfl, hb⟩; refine ⟨_, rfl, ?_⟩; have n0_ := Aside0.mk (Kd.R_below (by (with_reducible repeat (first | apply Kd.R_alloc | apply Kd.R_drewN | apply Kd.R_drew)); exact HO_7.out) hb); have n1_ := Aside0.mk (below_step (by repeat (first | (with_reducible first | exact HB.out | apply bwA | apply bwN | apply bwD) | exact HB.out)) hb); clear HO_7; clear HB; have HO_7 := n0_; have HB := n1_; clear n0_ n1_; (try clear hb); (try clear hb2); (try clear hk); (try clear hi)) | ((with_reducible refine gate_callee (f := 94) rfl ?_); refine goesL_ (some 23) rfl rfl Try.func94 (by kernel_rfl) rfl #[.bool (decide ((rd l2 x14_1) > 0))] rfl (by (try simp only [List.map_toArray, List.map_cons, List.map_nil]); first | done | rfl | (simp only [List.length_drop, List.length_take]; rfl)) ?_; (with_reducible refine (impl_bit.calls (decide ((rd l2 x14_1) > 0)) t260 _ A10.out).mono ?_); rintro e w' ⟨rfl, ⟨nd, rfl⟩⟩; refine ⟨_, rfl, ?_⟩; (try (rw [drewN_self w14]; generalize hq_ : World.drewN w14 _ = w14; have n0_ : Aside0 (Kd.R (Kd.int .i64) 3 w14 w.heap.size (fun _ => True) v256 x7_1) := ⟨by rw [← hq_]; exact (by (with_reducible repeat (first | apply Kd.R_alloc | apply Kd.R_drewN | apply Kd.R_drew)); exact HO_7.out)⟩; have n1_ : Aside0 (Below w.heap.size w w14) := ⟨by rw [← hq_]; exact (by repeat (first | (with_reducible first | exact HB.out | apply bwA | apply bwN | apply bwD) | exact HB.out))⟩; clear HO_7 HB hq_; have HO_7 := n0_; have HB := n1_; clear n0_ n1_)); have p13 : 0 ≤ (t259 : Int) := of_decide_eq_true (by first | (with_reducible assumption) | assumption); have q13 : (t259 : Int) < ((x7_1.length : Int) : Int) := of_decide_eq_true (by first | (with_reducible assumption) | assumption); obtain ⟨go13, co13, eo13, gb13, gl13, cl13, HG13⟩ := Kd.R_form HO_7.out (by omega); (first | cases eo13 | (injection eo13 with ea_ en_ ec_; (first | subst ea_ | (injection ea_ with ea_; subst ea_)); subst ec_; clear en_)); have GB13 := Aside0.mk gb13; have GG13 := Aside0.mk HG13; clear gb13 gl13 HG13; obtain ⟨hx13_0, hf13_0⟩ := Kd.R_celln 0 HO_7.out (t259 : Int) p13 q13; replace p13 := eq_true p13; replace q13 := eq_true q13; obtain ⟨hy15_, hz15_⟩ := Kd.R_celln 0 HO_7.out (t259 : Int) (of_decide_eq_true (by first | (with_reducible assumption) | assumption)) (of_decide_eq_true (by first | (with_reducible assumption) | assumption)); have HP15 := Kd.R_putg HO_7.out (t259 : Int) (wrap64 (1 - (wrap64 (2 * t260))))) | ((with_reducible refine gate_store (t := 3) (p := 26) rfl ?_); refine store_event (t := 3) (p := 26) (v := ?vo_w16) (w1 := (w14.setCell ⟨go13, (t259 : Int).toNat, none⟩ (.int .i64 (wrap64 (1 - (wrap64 (2 * t260))))))) ?hg ?ho ?hn ?hr ?_; (case ho => rfl); (case hg => rfl); (case hn => rfl); (case hr => first | (go_simp; done) | (go_simp; rfl)); intro w16 hw; have hg : w14.grownBy w16 (some go13) := (by rw [hw]; exact HP15.2); have hp_ : Kd.R (Kd.int .i64) 3 w16 w.heap.size (fun _ => True) (.slice (some ⟨go13, 0, none⟩) x7_1.length co13) y261 := (by rw [hw, Ny261.out]; exact HP15.1); clear HP15; have n0_ := Aside0.mk (hp_); have n1_ := Aside0.mk ((by rw [hw]; exact below_set (HB.out) GB13.out : Below w.heap.size w w16)); clear HO_7; clear HB; have HO_7 := n0_; have HB := n1_; clear n0_ n1_; clear hg hw hp_))
        go_roundg k1
        case measure => have := HK1.out; omega
        case rel => exact ⟨(y261), (wrap64 (x14_1 + 1)), (by first | rfl | (simp; done) | (simp [*]; done)), H', ⟨by have := HK1.out; omega⟩, ⟨by (with_reducible repeat (first | apply Kd.R_alloc | apply Kd.R_drewN | apply Kd.R_drew)); exact HO_7.out⟩, ⟨by repeat (first | (with_reducible first | exact HB.out | apply bwA | apply bwN | apply bwD) | exact HB.out)⟩⟩
       ·rw [if_neg c12] at H
        exact absurd H (by simp)
      ·rw [if_neg c11] at H
       exact absurd H (by simp)
     ·rw [if_neg c8] at H
      exact absurd H (by simp)
    ·rw [if_neg c7] at H
     exact absurd H (by simp)
   ·rw [if_neg c6] at H
    have c6b0 : decide (x14_1 < (l2.length : Int)) = false := decide_eq_false c6
    clear c6
    replace H := Option.bind_eq_some_iff.mp H
    obtain ⟨⟨t262, t263⟩, A170, H⟩ := H
    replace H : (some (!t262)) = some r := H
    have A17 := Aside0.mk A170
    clear A170
    obtain rfl := Option.some.inj H
    obtain ⟨Ao18, co18, eo18⟩ := Kd.R_slice HO_7.out
    subst eo18
    go_wp2_with (first | ((with_reducible refine gate_callee (f := 53) rfl ?_); refine goesL_ (some 30) rfl rfl Try.func53 (by kernel_rfl) rfl #[.slice A1 l1.length c1, .slice Ao18 x7_1.length co18] rfl (by (try simp only [List.map_toArray, List.map_cons, List.map_nil]); first | done | rfl | (simp only [List.length_drop, List.length_take]; rfl)) ?_; (with_reducible refine (impl_forced.calls k1 _ _ l1 (fun k_ => some k_ = (.slice Ao18 x7_1.length co18 : Value).ownBlock) (.slice Ao18 x7_1.length co18) x7_1 t262 t263 w _ ?side1 ?side2 ?side3 ?side4 A17.out).mono ?_); (case side1 => repeat (first | (with_reducible first | exact HB.out | apply bwA | apply bwN | apply bwD) | exact HB.out)); (case side2 => exact Kd.C_kept_came (Kd.heap_slice 3 (Kd.heap_int .i64)) HR1.out (by repeat (first | (with_reducible first | exact HB.out | apply bwA | apply bwN | apply bwD) | exact HB.out)) (fun k_ hs_ => (fun e_ => Kd.R_base HO_7.out k_ e_.symm) hs_)); (case side3 => exact HC1.out); (case side4 => exact Kd.R_tight rfl HO_7.out); rintro e w19 ⟨rfl, hy0, hb, hkp⟩; refine ⟨_, rfl, ?_⟩; have n0_ := Aside0.mk (Kd.R_reok rfl hy0 (fun k_ e_ => HO_7.out.1 k_ e_)); have n1_ := Aside0.mk (hb); clear HO_7; clear HB; have HO_7 := n0_; have HB := n1_; clear n0_ n1_; (try clear hb); (try clear hkp); (try clear hy0)))
    go_ret
    exact ⟨by first | rfl | (simp [errW_none, errW_some] <;> rfl) | (simp [*, errW_none, errW_some] <;> rfl), by repeat (first | (with_reducible first | exact HB.out | apply bwA | apply bwN | apply bwD) | exact HB.out)⟩

end Go.Proofs.Ytkfmgfdbdgjfiaa.QFnExactCheckProof
