-- Written by a program of this session (mk.py). Lean checks it.
import Derived.Test.YtkfmgfdbdgjfiaaQFnExactCoreOfx0
namespace Go.Proofs.Ytkfmgfdbdgjfiaa.QFnExactCoreOf
open Go.RowKit Go.Proofs.YtkfmgfdbdgjfiaaW.PrintWords Go.Proofs.YtkfmgfdbdgjfiaaW.PrintLast Go.Proofs.YtkfmgfdbdgjfiaaW.PrintMore
attribute [local go_sem] max2_int min2_int max_two min_two max_three min_three max_four min_four   -- for this text's walks alone
set_option linter.unusedVariables false
set_option linter.unusedSimpArgs false

/-! ### impl_models: function 78 -/
section
variable {σ : Type}
mutual
def impl_models.l0 (step : σ → Int → Bool × σ) : Nat → σ → Int → List (List Int) → List Int → List Int → List (List Int) → Int → Int → Option σ
 | 0, _, _, _, _, _, _, _, _ => none
 | k + 1, s, x0, x1, x6, x7, x20, x21, x22 => if x22 < x21 then (if 0 ≤ x22 then (if x22 < (x20.length : Int) then (impl_models.l1 step k s x0 x1 x6 x7 x22 x20 x21 x22 (rd_L1 x20 x22) ((rd_L1 x20 x22).length : Int) 0) else (none)) else (none)) else (if 0 ≤ x0 then (impl_models.l2 step k s x1 x6 x7 (shl .i64 1 x0) 0) else (none))
def impl_models.l1 (step : σ → Int → Bool × σ) : Nat → σ → Int → List (List Int) → List Int → List Int → Int → List (List Int) → Int → Int → List Int → Int → Int → Option σ
 | 0, _, _, _, _, _, _, _, _, _, _, _, _ => none
 | k + 1, s, x0, x1, x6, x7, x8, x20, x21, x22, x27, x28, x29 => if x29 < x28 then (if 0 ≤ x29 then (if x29 < (x27.length : Int) then (if (rd x27 x29) > 0 then (if 0 ≤ x8 then (if x8 < (x6.length : Int) then (if 0 ≤ (wrap64 ((rd x27 x29) - 1)) then (impl_models.l1 step k s x0 x1 (x6.set (x8 : Int).toNat (Go.bits .or .i64 (rd x6 x8) (shl .i64 1 (wrap64 ((rd x27 x29) - 1))))) x7 x8 x20 x21 x22 x27 x28 (wrap64 (x29 + 1))) else (none)) else (none)) else (none)) else (if 0 ≤ x8 then (if x8 < (x7.length : Int) then (if 0 ≤ (wrap64 ((wrap64 (-(rd x27 x29))) - 1)) then (impl_models.l1 step k s x0 x1 x6 (x7.set (x8 : Int).toNat (Go.bits .or .i64 (rd x7 x8) (shl .i64 1 (wrap64 ((wrap64 (-(rd x27 x29))) - 1))))) x8 x20 x21 x22 x27 x28 (wrap64 (x29 + 1))) else (none)) else (none)) else (none))) else (none)) else (none)) else (impl_models.l0 step k s x0 x1 x6 x7 x20 x21 (wrap64 (x22 + 1)))
def impl_models.l2 (step : σ → Int → Bool × σ) : Nat → σ → List (List Int) → List Int → List Int → Int → Int → Option σ
 | 0, _, _, _, _, _, _ => none
 | k + 1, s, x1, x6, x7, x57, x58 => if x58 < x57 then (impl_models.l3 step k s x1 x6 x7 x58 x57 x58 (x1.length : Int) 0) else (some s)
def impl_models.l3 (step : σ → Int → Bool × σ) : Nat → σ → List (List Int) → List Int → List Int → Int → Int → Int → Int → Int → Option σ
 | 0, _, _, _, _, _, _, _, _, _ => none
 | k + 1, s, x1, x6, x7, x12, x57, x58, x62, x63 => if x63 < x62 then (if 0 ≤ x63 then (if x63 < (x6.length : Int) then (if (Go.bits .and .i64 x12 (rd x6 x63)) = 0 then (if x63 < (x7.length : Int) then (if (Go.bits .and .i64 (Go.bits .xor .i64 (-1) x12) (rd x7 x63)) = 0 then (impl_models.l2 step k s x1 x6 x7 x57 (wrap64 (x58 + 1))) else (impl_models.l3 step k s x1 x6 x7 x12 x57 x58 x62 (wrap64 (x63 + 1)))) else (none)) else (impl_models.l3 step k s x1 x6 x7 x12 x57 x58 x62 (wrap64 (x63 + 1)))) else (none)) else (none)) else (if (step s x12).1 = true then (impl_models.l2 step k (step s x12).2 x1 x6 x7 x57 (wrap64 (x58 + 1))) else (some (step s x12).2))
end
def impl_models.f (step : σ → Int → Bool × σ) (k : Nat) (s : σ) (a0 : Int) (l1 : List (List Int)) : Option σ := if 0 ≤ (l1.length : Int) then (if ((l1.length : Int) : Int).toNat ≤ 35184372088832 then (impl_models.l0 step k s a0 l1 (List.replicate ((l1.length : Int) : Int).toNat 0) (List.replicate ((l1.length : Int) : Int).toNat 0) l1 (l1.length : Int) 0) else (none)) else (none)
theorem impl_models.mono_l (step : σ → Int → Bool × σ) : ∀ k, (∀ s y0 y1 y2 y3 y4 y5 y6, LeO (impl_models.l0 step k s y0 y1 y2 y3 y4 y5 y6) (impl_models.l0 step (k + 1) s y0 y1 y2 y3 y4 y5 y6)) ∧ (∀ s y0 y1 y2 y3 y4 y5 y6 y7 y8 y9 y10, LeO (impl_models.l1 step k s y0 y1 y2 y3 y4 y5 y6 y7 y8 y9 y10) (impl_models.l1 step (k + 1) s y0 y1 y2 y3 y4 y5 y6 y7 y8 y9 y10)) ∧ (∀ s y0 y1 y2 y3 y4, LeO (impl_models.l2 step k s y0 y1 y2 y3 y4) (impl_models.l2 step (k + 1) s y0 y1 y2 y3 y4)) ∧ (∀ s y0 y1 y2 y3 y4 y5 y6 y7, LeO (impl_models.l3 step k s y0 y1 y2 y3 y4 y5 y6 y7) (impl_models.l3 step (k + 1) s y0 y1 y2 y3 y4 y5 y6 y7))
 | 0 => ⟨fun _ _ _ _ _ _ _ _ r h => by simp [impl_models.l0] at h, fun _ _ _ _ _ _ _ _ _ _ _ _ r h => by simp [impl_models.l1] at h, fun _ _ _ _ _ _ r h => by simp [impl_models.l2] at h, fun _ _ _ _ _ _ _ _ _ r h => by simp [impl_models.l3] at h⟩
 | k + 1 => by
  obtain ⟨ih0, ih1, ih2, ih3⟩ := impl_models.mono_l step k
  refine ⟨?_, ?_, ?_, ?_⟩
  ·intro s y0 y1 y2 y3 y4 y5 y6
   unfold impl_models.l0
   repeat' first
   | (with_reducible exact ih0 _ _ _ _ _ _ _ _)
   | (with_reducible exact ih1 _ _ _ _ _ _ _ _ _ _ _ _)
   | (with_reducible exact ih2 _ _ _ _ _ _)
   | (with_reducible exact ih3 _ _ _ _ _ _ _ _ _)
   | (with_reducible exact LeO.refl _)
   | (with_reducible exact LeO.none _)
   | (with_reducible refine LeO.ite ?_ ?_)
   | (with_reducible refine LeO.bind ?_ (fun _ => ?_))
   | exact ih0 _ _ _ _ _ _ _ _
   | exact ih1 _ _ _ _ _ _ _ _ _ _ _ _
   | exact ih2 _ _ _ _ _ _
   | exact ih3 _ _ _ _ _ _ _ _ _
   | exact LeO.none _
   | refine LeO.ite ?_ ?_
   | refine LeO.bind ?_ (fun _ => ?_)
  ·intro s y0 y1 y2 y3 y4 y5 y6 y7 y8 y9 y10
   unfold impl_models.l1
   repeat' first
   | (with_reducible exact ih0 _ _ _ _ _ _ _ _)
   | (with_reducible exact ih1 _ _ _ _ _ _ _ _ _ _ _ _)
   | (with_reducible exact ih2 _ _ _ _ _ _)
   | (with_reducible exact ih3 _ _ _ _ _ _ _ _ _)
   | (with_reducible exact LeO.refl _)
   | (with_reducible exact LeO.none _)
   | (with_reducible refine LeO.ite ?_ ?_)
   | (with_reducible refine LeO.bind ?_ (fun _ => ?_))
   | exact ih0 _ _ _ _ _ _ _ _
   | exact ih1 _ _ _ _ _ _ _ _ _ _ _ _
   | exact ih2 _ _ _ _ _ _
   | exact ih3 _ _ _ _ _ _ _ _ _
   | exact LeO.none _
   | refine LeO.ite ?_ ?_
   | refine LeO.bind ?_ (fun _ => ?_)
  ·intro s y0 y1 y2 y3 y4
   unfold impl_models.l2
   repeat' first
   | (with_reducible exact ih0 _ _ _ _ _ _ _ _)
   | (with_reducible exact ih1 _ _ _ _ _ _ _ _ _ _ _ _)
   | (with_reducible exact ih2 _ _ _ _ _ _)
   | (with_reducible exact ih3 _ _ _ _ _ _ _ _ _)
   | (with_reducible exact LeO.refl _)
   | (with_reducible exact LeO.none _)
   | (with_reducible refine LeO.ite ?_ ?_)
   | (with_reducible refine LeO.bind ?_ (fun _ => ?_))
   | exact ih0 _ _ _ _ _ _ _ _
   | exact ih1 _ _ _ _ _ _ _ _ _ _ _ _
   | exact ih2 _ _ _ _ _ _
   | exact ih3 _ _ _ _ _ _ _ _ _
   | exact LeO.none _
   | refine LeO.ite ?_ ?_
   | refine LeO.bind ?_ (fun _ => ?_)
  ·intro s y0 y1 y2 y3 y4 y5 y6 y7
   unfold impl_models.l3
   repeat' first
   | (with_reducible exact ih0 _ _ _ _ _ _ _ _)
   | (with_reducible exact ih1 _ _ _ _ _ _ _ _ _ _ _ _)
   | (with_reducible exact ih2 _ _ _ _ _ _)
   | (with_reducible exact ih3 _ _ _ _ _ _ _ _ _)
   | (with_reducible exact LeO.refl _)
   | (with_reducible exact LeO.none _)
   | (with_reducible refine LeO.ite ?_ ?_)
   | (with_reducible refine LeO.bind ?_ (fun _ => ?_))
   | exact ih0 _ _ _ _ _ _ _ _
   | exact ih1 _ _ _ _ _ _ _ _ _ _ _ _
   | exact ih2 _ _ _ _ _ _
   | exact ih3 _ _ _ _ _ _ _ _ _
   | exact LeO.none _
   | refine LeO.ite ?_ ?_
   | refine LeO.bind ?_ (fun _ => ?_)
theorem impl_models.mono (step : σ → Int → Bool × σ) : ∀ s a0 a1 k, LeO (impl_models.f step k s a0 a1) (impl_models.f step (k + 1) s a0 a1) := by
 intro s a0 a1 k
 obtain ⟨ih0, ih1, ih2, ih3⟩ := impl_models.mono_l step k
 unfold impl_models.f
 repeat' first
   | (with_reducible exact ih0 _ _ _ _ _ _ _ _)
   | (with_reducible exact ih1 _ _ _ _ _ _ _ _ _ _ _ _)
   | (with_reducible exact ih2 _ _ _ _ _ _)
   | (with_reducible exact ih3 _ _ _ _ _ _ _ _ _)
   | (with_reducible exact LeO.refl _)
   | (with_reducible exact LeO.none _)
   | (with_reducible refine LeO.ite ?_ ?_)
   | (with_reducible refine LeO.bind ?_ (fun _ => ?_))
   | exact ih0 _ _ _ _ _ _ _ _
   | exact ih1 _ _ _ _ _ _ _ _ _ _ _ _
   | exact ih2 _ _ _ _ _ _
   | exact ih3 _ _ _ _ _ _ _ _ _
   | exact LeO.none _
   | refine LeO.ite ?_ ?_
   | refine LeO.bind ?_ (fun _ => ?_)
def impl_models.T0 : Bool × List (List Nat × List Nat) := (true, [([], []), ([0], [0]), ([1, 1], [1]), ([], []), ([3], [3]), ([4, 4], [4]), ([2, 0, 1, 2], [2]), ([5, 6, 0, 1, 2, 3, 4, 5, 6], [5])])
def impl_models.B0 : List Nat := [0, 1, 3, 0, 8, 24, 7, 127]
theorem impl_models.tab0 : rtab .any (opsOf Try.f78 0) = impl_models.T0 := by kernel_rfl
theorem impl_models.bits0 : waitsOk impl_models.T0.2 impl_models.B0 = true := by kernel_rfl
def impl_models.T8 : Bool × List (List Nat × List Nat) := (true, [([], []), ([], []), ([0, 1], [0, 1]), ([2], [2]), ([], []), ([4], [4]), ([5], [5]), ([3, 6], [3, 6]), ([0, 1, 0, 1, 2, 3, 4, 5, 6, 7], [0, 1]), ([8, 7, 0, 1, 2, 3, 4, 5, 6, 7], [7, 8])])
def impl_models.B8 : List Nat := [0, 0, 3, 7, 0, 16, 48, 127, 255, 511]
theorem impl_models.tab8 : rtab .any (opsOf Try.f78 8) = impl_models.T8 := by kernel_rfl
theorem impl_models.bits8 : waitsOk impl_models.T8.2 impl_models.B8 = true := by kernel_rfl
def impl_models.T9 : Bool × List (List Nat × List Nat) := (true, [([], []), ([], []), ([0, 1], [0, 1]), ([2], [2]), ([], []), ([4], [4]), ([5], [5]), ([6], [6]), ([3, 7], [3, 7]), ([0, 1, 0, 1, 2, 3, 4, 5, 6, 7, 8], [0, 1]), ([9, 8, 0, 1, 2, 3, 4, 5, 6, 7, 8], [8, 9])])
def impl_models.B9 : List Nat := [0, 0, 3, 7, 0, 16, 48, 112, 255, 511, 1023]
theorem impl_models.tab9 : rtab .any (opsOf Try.f78 9) = impl_models.T9 := by kernel_rfl
theorem impl_models.bits9 : waitsOk impl_models.T9.2 impl_models.B9 = true := by kernel_rfl
theorem impl_models_sg (k : Int) : (if IntKind.i64.signed = true then (-1 : Int) else k) = -1 := rfl
attribute [local go_sem] impl_models_sg
set_option maxHeartbeats 8000000 in
set_option maxRecDepth 100000 in
theorem impl_models.calls (step : σ → Int → Bool × σ) (B : Nat) (w0 : World) (S : Nat → Prop) (I : σ → World → Prop) (gv : Nat) (lb : Array Value) (eg : ∀ args w, (callFunc gv args).run Try.prog w = .ok (.enter gv args) w)
    (k : Nat) (s : σ) (a0 : Int) (A1 : Option Addr) (c1 : Nat) (l1 : List (List Int)) (r : σ) (w : World) (hS : ∀ i, S i → i < w.heap.size) (hI : ∀ s W W1, I s W → (∀ i, S i → W1.heap[i]? = W.heap[i]?) → I s W1)
    (hv : ∀ s x W, I s W → Calls Try.prog gv (#[.int .i64 x] ++ lb) W fun e w' => e = .returned (.bool (step s x).1) ∧ I (step s x).2 w' ∧ Kept W w' S ∧ Below B W w') (hi0 : I s w) (hb0 : Below B w0 w) (hB : B ≤ w.heap.size)
    (hr1 : Kd.C (Kd.slice 3 (Kd.int .i64)) w A1 l1.length l1) (hc1 : l1.length ≤ c1) (h : impl_models.f step k s a0 l1 = some r) :
  Calls Try.prog 78 #[.int .i64 a0, .slice A1 l1.length c1, .func (.func gv) #[] lb] w fun e w' => e = .returned (.tuple #[]) ∧ I r w' ∧ Below B w0 w' := by
 have HR1 := Aside0.mk hr1
 have HC1 := Aside0.mk hc1
 have HS := Aside0.mk hS
 have HI := Aside0.mk hI
 have HV := Aside0.mk hv
 have HI0 := Aside0.mk hi0
 have HB0 := Aside0.mk hb0
 have HBw := Aside0.mk hB
 clear hr1 hc1 hS hI hv hi0 hb0 hB
 have HB := Aside0.mk (Below.refl w.heap.size w)
 have H : (if 0 ≤ (l1.length : Int) then (if ((l1.length : Int) : Int).toNat ≤ 35184372088832 then (impl_models.l0 step k s a0 l1 (List.replicate ((l1.length : Int) : Int).toNat 0) (List.replicate ((l1.length : Int) : Int).toNat 0) l1 (l1.length : Int) 0) else (none)) else (none)) = some r := h
 clear h
 by_cases c4 : 0 ≤ (l1.length : Int)
 ·rw [if_pos c4] at H
  have c4b0 := eq_true c4
  have c4b1 : decide (0 ≤ (l1.length : Int)) = true := decide_eq_true c4
  clear c4
  by_cases c5 : ((l1.length : Int) : Int).toNat ≤ 35184372088832
  ·rw [if_pos c5] at H
   have c5b0 := eq_true c5
   have c5b1 : decide (((l1.length : Int) : Int).toNat ≤ 35184372088832) = true := decide_eq_true c5
   clear c5
   obtain ⟨y241, hy241⟩ : ∃ y_ : List Int, y_ = (List.replicate ((l1.length : Int) : Int).toNat 0) := ⟨_, rfl⟩
   replace H : (impl_models.l0 step k s a0 l1 y241 (List.replicate ((l1.length : Int) : Int).toNat 0) l1 (l1.length : Int) 0) = some r := by first | (rw [hy241]; with_reducible exact H) | (have H2_ := (Option.bind_some _ _).symm.trans H; rw [hy241]; with_reducible exact H2_) | (have H2_ := (Option.bind_some _ _).symm.trans H; with_reducible exact H2_) | with_reducible exact H | (rw [hy241]; exact H) | exact H
   have Ny241 := Aside0.mk hy241
   clear hy241
   obtain ⟨y244, hy244⟩ : ∃ y_ : List Int, y_ = (List.replicate ((l1.length : Int) : Int).toNat 0) := ⟨_, rfl⟩
   replace H : (impl_models.l0 step k s a0 l1 y241 y244 l1 (l1.length : Int) 0) = some r := by first | (rw [hy244]; with_reducible exact H) | (have H2_ := (Option.bind_some _ _).symm.trans H; rw [hy244]; with_reducible exact H2_) | (have H2_ := (Option.bind_some _ _).symm.trans H; with_reducible exact H2_) | with_reducible exact H | (rw [hy244]; exact H) | exact H
   have Ny244 := Aside0.mk hy244
   clear hy244
   have H' := Aside0.mk H
   clear H
   go_enter Try.func78, Try.ntmps78
   (try go_wp2); go_step3; (try go_wp2)
   have n0_ := Aside0.mk (below_drew1 HB.out)
   clear HB
   have HB := n0_
   clear n0_
   refine start_ (n := 8) (S := fun w' => True) (ds := []) #[false, false, false, false, false, false, false, false] (by kernel_rfl) rfl rfl trivial (fun hHeld => ?_); refine with_tabW impl_models.tab0 impl_models.bits0 (fun HT_ HW_ => ?_)
   generalize w.drew = w6 at HB hHeld ⊢
   refine pure_ (i := 0) (N := some 14) (v := ?_) (a' := ?_) #[true, false, false, false, false, false, false, false] rfl rfl (any_of HT_.out (by kernel_rfl)) (fun _ _ _ h => h) (Or.inl ⟨by rfl, ?_⟩) ?_ ?_
   rotate_left
   ·intro w'
    go_simp
    with_reducible rfl
   rotate_left
   ·simp only [Act.put, List.setIfInBounds_toArray, List.set_cons_zero, List.set_cons_succ, i64_w, i32_w]
    rfl
   refine pure_ (i := 1) (N := some 15) (v := ?_) (a' := ?_) #[true, true, false, false, false, false, false, false] rfl rfl (any_of HT_.out (by kernel_rfl)) (fun _ _ _ h => h) (Or.inl ⟨by rfl, ?_⟩) ?_ ?_
   rotate_left
   ·intro w'
    go_simp
    with_reducible rfl
   rotate_left
   ·simp only [Act.put, List.setIfInBounds_toArray, List.set_cons_zero, List.set_cons_succ, i64_w, i32_w]
    rfl
   refine pure_ (i := 3) (N := some 17) (v := ?_) (a' := ?_) #[true, true, false, true, false, false, false, false] rfl rfl (any_of HT_.out (by kernel_rfl)) (fun _ _ _ h => h) (Or.inl ⟨by rfl, ?_⟩) ?_ ?_
   rotate_left
   ·intro w'
    go_simp
    with_reducible rfl
   rotate_left
   ·simp only [Act.put, List.setIfInBounds_toArray, List.set_cons_zero, List.set_cons_succ, i64_w, i32_w]
    rfl
   refine pure_ (i := 4) (N := some 18) (v := ?_) (a' := ?_) #[true, true, false, true, true, false, false, false] rfl rfl (any_of HT_.out (by kernel_rfl)) (fun _ _ _ h => h) (Or.inl ⟨by rfl, ?_⟩) ?_ ?_
   rotate_left
   ·intro w'
    go_simp
    with_reducible rfl
   rotate_left
   ·simp only [Act.put, List.setIfInBounds_toArray, List.set_cons_zero, List.set_cons_succ, i64_w, i32_w]
    rfl
   refine join_ (σ := Value × Value) 1 #[true, true, true, true, true, true, true, false] (fun s_ => [(16, s_.1), (19, s_.2), (6, s_.1)]) (fun s_ w' => (Kd.R (Kd.int .i64) 3 w' w.heap.size (fun k_ => some k_ ≠ (s_.2 : Value).ownBlock) s_.1 y241) ∧ (Kd.R (Kd.int .i64) 3 w' w.heap.size (fun k_ => some k_ ≠ (s_.1 : Value).ownBlock) s_.2 y244) ∧ (Below w.heap.size w w')) ?_ ?_
   rotate_left
   ·intro hCont
    refine two_ (i := 2) (j := 5) (Ni := some 16) (Nj := some 19) #[true, true, true, true, true, false, false, false] #[true, true, false, true, true, true, false, false] rfl rfl rfl rfl (two_of HT_.out (by kernel_rfl)) (by decide) (by decide) (fun K hK => ?_) (fun K hK => ?_)
    ·skip
     refine Kd.R_make_step (Kd.int .i64) _ 3 (by rfl) (N := 16) rfl 25 _ _ rfl (l1.length : Int) rfl rfl Try.underlying25 (.int .i64 0) 8 info3 rfl (by decide) (by omega) 0 (ok := fun _ => True) (okp := fun _ => True) rfl (fun _ hk => hk) trivial (of_decide_eq_true (by first | (with_reducible assumption) | assumption)) (Nat.le_trans (Nat.mul_le_mul_right _ (of_decide_eq_true (by first | (with_reducible assumption) | assumption) : (l1.length : Int).toNat ≤ 35184372088832)) (by omega)) (Below.refl _ _) (Nat.le_refl _) ?_
     intro v242 w7 ho8 hb hg_ hnew_
     clear hg_ hnew_
     (first | rw [← Ny241.out] at ho8 | (simp only [Int.reduceToNat] at ho8; rw [← Ny241.out] at ho8))
     have n0_ := Aside0.mk (Kd.R_lower ho8 (below_size (by repeat (first | (with_reducible first | exact HB.out | apply bwA | apply bwN | apply bwD) | exact HB.out))))
     have n1_ := Aside0.mk (below_step (by repeat (first | (with_reducible first | exact HB.out | apply bwA | apply bwN | apply bwD) | exact HB.out)) hb)
     clear HB
     have HO243 := n0_
     have HB := n1_
     clear n0_ n1_
     clear hb ho8
     refine hK.out _ _ trivial (fun hHeld => ?_)
     clear hK K
     refine norm_ (a' := ?_) ?_ ?_
     rotate_left
     ·show Act.put _ (some 16) _ = _
      simp only [Act.put, List.setIfInBounds_toArray, List.set_cons_zero, List.set_cons_succ, i64_w, i32_w]
      rfl
     refine pure_ (i := 6) (N := some 6) (v := ?_) (a' := ?_) #[true, true, true, true, true, false, true, false] rfl rfl (any_of HT_.out (by kernel_rfl)) (fun _ _ _ h => h) (Or.inl ⟨by rfl, ?_⟩) ?_ ?_
     rotate_left
     ·intro w'
      go_simp
      with_reducible rfl
     rotate_left
     ·simp only [Act.put, List.setIfInBounds_toArray, List.set_cons_zero, List.set_cons_succ, i64_w, i32_w]
      rfl
     refine one_ (i := 5) (N := some 19) #[true, true, true, true, true, true, true, false] rfl rfl (one_of HT_.out (by kernel_rfl)) (by decide) (fun K hK => ?_)
     refine Kd.R_make_step (Kd.int .i64) _ 3 (by rfl) (N := 19) rfl 25 _ _ rfl (l1.length : Int) rfl rfl Try.underlying25 (.int .i64 0) 8 info3 rfl (by decide) (by omega) 0 (ok := fun _ => True) (okp := fun _ => True) rfl (fun _ hk => hk) trivial (of_decide_eq_true (by first | (with_reducible assumption) | assumption)) (Nat.le_trans (Nat.mul_le_mul_right _ (of_decide_eq_true (by first | (with_reducible assumption) | assumption) : (l1.length : Int).toNat ≤ 35184372088832)) (by omega)) (Below.refl _ _) (Nat.le_refl _) ?_
     intro v245 w9 ho10 hb hg_ hnew_
     clear hg_ hnew_
     (first | rw [← Ny244.out] at ho10 | (simp only [Int.reduceToNat] at ho10; rw [← Ny244.out] at ho10))
     have n0_ := Aside0.mk (Kd.R_elder' (by (with_reducible repeat (first | apply Kd.R_alloc | apply Kd.R_drewN | apply Kd.R_drew)); exact HO243.out) (Kd.R_base ho10) hb)
     have n1_ := Aside0.mk (Kd.R_lower (Kd.R_new' ho10 (Kd.R_lt (by (with_reducible repeat (first | apply Kd.R_alloc | apply Kd.R_drewN | apply Kd.R_drew)); exact HO243.out))) (below_size (by repeat (first | (with_reducible first | exact HB.out | apply bwA | apply bwN | apply bwD) | exact HB.out))))
     have n2_ := Aside0.mk (below_step (by repeat (first | (with_reducible first | exact HB.out | apply bwA | apply bwN | apply bwD) | exact HB.out)) hb)
     clear HO243
     clear HB
     have HO243 := n0_
     have HO246 := n1_
     have HB := n2_
     clear n0_ n1_ n2_
     clear hb ho10
     refine hK.out _ _ trivial (fun hHeld => ?_)
     clear hK K
     refine norm_ (a' := ?_) ?_ ?_
     rotate_left
     ·show Act.put _ (some 19) _ = _
      simp only [Act.put, List.setIfInBounds_toArray, List.set_cons_zero, List.set_cons_succ, i64_w, i32_w]
      rfl
     exact norm_ (by simp only [putAll, Act.put, List.setIfInBounds_toArray, List.set_cons_zero, List.set_cons_succ]) (hCont (v242, v245) _ ⟨(by (with_reducible repeat (first | apply Kd.R_alloc | apply Kd.R_drewN | apply Kd.R_drew)); exact Kd.R_mono HO243.out (fun _ hk => by first | exact hk.2 | exact trivial | exact hk)), (by (with_reducible repeat (first | apply Kd.R_alloc | apply Kd.R_drewN | apply Kd.R_drew)); exact Kd.R_mono HO246.out (fun _ hk => by first | exact hk.2 | exact trivial | exact hk)), (by repeat (first | (with_reducible first | exact HB.out | apply bwA | apply bwN | apply bwD) | exact HB.out))⟩)
    ·skip
     refine Kd.R_make_step (Kd.int .i64) _ 3 (by rfl) (N := 19) rfl 25 _ _ rfl (l1.length : Int) rfl rfl Try.underlying25 (.int .i64 0) 8 info3 rfl (by decide) (by omega) 0 (ok := fun _ => True) (okp := fun _ => True) rfl (fun _ hk => hk) trivial (of_decide_eq_true (by first | (with_reducible assumption) | assumption)) (Nat.le_trans (Nat.mul_le_mul_right _ (of_decide_eq_true (by first | (with_reducible assumption) | assumption) : (l1.length : Int).toNat ≤ 35184372088832)) (by omega)) (Below.refl _ _) (Nat.le_refl _) ?_
     intro v245 w7 ho8 hb hg_ hnew_
     clear hg_ hnew_
     (first | rw [← Ny244.out] at ho8 | (simp only [Int.reduceToNat] at ho8; rw [← Ny244.out] at ho8))
     have n0_ := Aside0.mk (Kd.R_lower ho8 (below_size (by repeat (first | (with_reducible first | exact HB.out | apply bwA | apply bwN | apply bwD) | exact HB.out))))
     have n1_ := Aside0.mk (below_step (by repeat (first | (with_reducible first | exact HB.out | apply bwA | apply bwN | apply bwD) | exact HB.out)) hb)
     clear HB
     have HO246 := n0_
     have HB := n1_
     clear n0_ n1_
     clear hb ho8
     refine hK.out _ _ trivial (fun hHeld => ?_)
     clear hK K
     refine norm_ (a' := ?_) ?_ ?_
     rotate_left
     ·show Act.put _ (some 19) _ = _
      simp only [Act.put, List.setIfInBounds_toArray, List.set_cons_zero, List.set_cons_succ, i64_w, i32_w]
      rfl
     refine one_ (i := 2) (N := some 16) #[true, true, true, true, true, true, false, false] rfl rfl (one_of HT_.out (by kernel_rfl)) (by decide) (fun K hK => ?_)
     refine Kd.R_make_step (Kd.int .i64) _ 3 (by rfl) (N := 16) rfl 25 _ _ rfl (l1.length : Int) rfl rfl Try.underlying25 (.int .i64 0) 8 info3 rfl (by decide) (by omega) 0 (ok := fun _ => True) (okp := fun _ => True) rfl (fun _ hk => hk) trivial (of_decide_eq_true (by first | (with_reducible assumption) | assumption)) (Nat.le_trans (Nat.mul_le_mul_right _ (of_decide_eq_true (by first | (with_reducible assumption) | assumption) : (l1.length : Int).toNat ≤ 35184372088832)) (by omega)) (Below.refl _ _) (Nat.le_refl _) ?_
     intro v242 w9 ho10 hb hg_ hnew_
     clear hg_ hnew_
     (first | rw [← Ny241.out] at ho10 | (simp only [Int.reduceToNat] at ho10; rw [← Ny241.out] at ho10))
     have n0_ := Aside0.mk (Kd.R_elder' (by (with_reducible repeat (first | apply Kd.R_alloc | apply Kd.R_drewN | apply Kd.R_drew)); exact HO246.out) (Kd.R_base ho10) hb)
     have n1_ := Aside0.mk (Kd.R_lower (Kd.R_new' ho10 (Kd.R_lt (by (with_reducible repeat (first | apply Kd.R_alloc | apply Kd.R_drewN | apply Kd.R_drew)); exact HO246.out))) (below_size (by repeat (first | (with_reducible first | exact HB.out | apply bwA | apply bwN | apply bwD) | exact HB.out))))
     have n2_ := Aside0.mk (below_step (by repeat (first | (with_reducible first | exact HB.out | apply bwA | apply bwN | apply bwD) | exact HB.out)) hb)
     clear HO246
     clear HB
     have HO246 := n0_
     have HO243 := n1_
     have HB := n2_
     clear n0_ n1_ n2_
     clear hb ho10
     refine hK.out _ _ trivial (fun hHeld => ?_)
     clear hK K
     refine norm_ (a' := ?_) ?_ ?_
     rotate_left
     ·show Act.put _ (some 16) _ = _
      simp only [Act.put, List.setIfInBounds_toArray, List.set_cons_zero, List.set_cons_succ, i64_w, i32_w]
      rfl
     refine pure_ (i := 6) (N := some 6) (v := ?_) (a' := ?_) #[true, true, true, true, true, true, true, false] rfl rfl (any_of HT_.out (by kernel_rfl)) (fun _ _ _ h => h) (Or.inl ⟨by rfl, ?_⟩) ?_ ?_
     rotate_left
     ·intro w'
      go_simp
      with_reducible rfl
     rotate_left
     ·simp only [Act.put, List.setIfInBounds_toArray, List.set_cons_zero, List.set_cons_succ, i64_w, i32_w]
      rfl
     exact norm_ (by simp only [putAll, Act.put, List.setIfInBounds_toArray, List.set_cons_zero, List.set_cons_succ]) (hCont (v242, v245) _ ⟨(by (with_reducible repeat (first | apply Kd.R_alloc | apply Kd.R_drewN | apply Kd.R_drew)); exact Kd.R_mono HO243.out (fun _ hk => by first | exact hk.2 | exact trivial | exact hk)), (by (with_reducible repeat (first | apply Kd.R_alloc | apply Kd.R_drewN | apply Kd.R_drew)); exact Kd.R_mono HO246.out (fun _ hk => by first | exact hk.2 | exact trivial | exact hk)), (by repeat (first | (with_reducible first | exact HB.out | apply bwA | apply bwN | apply bwD) | exact HB.out))⟩)
   rintro ⟨v242, v245⟩ w11 ⟨h0_, h1_, h2_⟩
   have n0_ : Aside0 (Kd.R (Kd.int .i64) 3 w11 w.heap.size (fun k_ => some k_ ≠ (v245 : Value).ownBlock) v242 y241) := ⟨h0_⟩
   have n1_ : Aside0 (Kd.R (Kd.int .i64) 3 w11 w.heap.size (fun k_ => some k_ ≠ (v242 : Value).ownBlock) v245 y244) := ⟨h1_⟩
   have n2_ : Aside0 (Below w.heap.size w w11) := ⟨h2_⟩
   clear HB
   clear h0_ h1_ h2_
   have HO243 := n0_
   have HO246 := n1_
   have HB := n2_
   clear n0_ n1_ n2_
   have hHeld := trivial
   refine norm_ (a' := ?_) ?_ ?_
   rotate_left
   ·simp only [putAll, Act.put, List.setIfInBounds_toArray, List.set_cons_zero, List.set_cons_succ]
    rfl
   refine pure_ (i := 7) (N := some 7) (v := ?_) (a' := ?_) #[true, true, true, true, true, true, true, true] rfl rfl (any_of HT_.out (by kernel_rfl)) (fun _ _ _ h => h) (Or.inl ⟨by rfl, ?_⟩) ?_ ?_
   rotate_left
   ·intro w'
    go_simp
    with_reducible rfl
   rotate_left
   ·simp only [Act.put, List.setIfInBounds_toArray, List.set_cons_zero, List.set_cons_succ, i64_w, i32_w]
    rfl
   refine done_ (done_of HT_.out (by kernel_rfl)) ?_
   try go_wp2
   go_loopg [22] k (fun kq v22 w' => ∃ (x6_1 : List Int) (x7_1 : List Int) (x22_1 : Int), v22 = .int .i64 x22_1 ∧ Aside0 (impl_models.l0 step kq s a0 l1 x6_1 x7_1 l1 (l1.length : Int) x22_1 = some r) ∧ Aside0 (kq ≤ k) ∧ Aside0 (Kd.R (Kd.int .i64) 3 w' w.heap.size (fun k_ => some k_ ≠ (v245 : Value).ownBlock) v242 x6_1) ∧ Aside0 (Kd.R (Kd.int .i64) 3 w' w.heap.size (fun k_ => some k_ ≠ (v242 : Value).ownBlock) v245 x7_1) ∧ Aside0 (Below w.heap.size w w'))
   case atStart => exact ⟨(y241), (y244), (0), (by first | rfl | (simp; done) | (simp [*]; done)), H', ⟨Nat.le_refl _⟩, ⟨by (with_reducible repeat (first | apply Kd.R_alloc | apply Kd.R_drewN | apply Kd.R_drew)); exact HO243.out⟩, ⟨by (with_reducible repeat (first | apply Kd.R_alloc | apply Kd.R_drewN | apply Kd.R_drew)); exact HO246.out⟩, ⟨by repeat (first | (with_reducible first | exact HB.out | apply bwA | apply bwN | apply bwD) | exact HB.out)⟩⟩
   case round =>
    clear H'
    try clear c1
    try clear p2
    try clear c4
    try clear c4b0
    try clear c4b1
    try clear c5
    try clear c5b0
    try clear c5b1
    try clear c7
    obtain ⟨x6_1, x7_1, x22_1, rfl, HA, HK1, HO_6, HO_7, HB⟩ := hrel
    cases gk with
    | zero => exact absurd HA.out (by simp [impl_models.l0])
    | succ k1 =>
     have H := HA.out
     clear HA
     simp only [impl_models.l0] at H
     by_cases c12 : x22_1 < (l1.length : Int)
     ·rw [if_pos c12] at H
      have c12b0 : decide (x22_1 < (l1.length : Int)) = true := decide_eq_true c12
      clear c12
      by_cases c13 : 0 ≤ x22_1
      ·rw [if_pos c13] at H
       have c13b0 : decide (0 ≤ x22_1) = true := decide_eq_true c13
       clear c13
       by_cases c14 : x22_1 < (l1.length : Int)
       ·rw [if_pos c14] at H
        have c14b0 : decide (x22_1 < (l1.length : Int)) = true := decide_eq_true c14
        clear c14
        have H' := Aside0.mk H
        clear H
        have p247 : 0 ≤ (x22_1 : Int) := of_decide_eq_true (by first | (with_reducible assumption) | assumption)
        have q247 : x22_1 < (l1.length : Int) := of_decide_eq_true (by first | (with_reducible assumption) | assumption)
        obtain ⟨ad247, A247_0, c247_0, e247, hx247_0, hl247_0, hi247_0⟩ := at_L1 HR1.out x22_1 p247 q247
        cases e247
        try replace hx247_0 := (HB.out.cell (World.block_lt_of_cell? w _ hx247_0)).trans hx247_0
        have HR247_0 := Aside0.mk hi247_0
        have HC247_0 := Aside0.mk hl247_0
        clear hi247_0 hl247_0
        replace p247 := eq_true p247
        replace q247 := eq_true q247
        go_wp2
        go_loopg [29] k1 (fun kq v29 w' => ∃ (x6_2 : List Int) (x7_2 : List Int) (x29_2 : Int), v29 = .int .i64 x29_2 ∧ Aside0 (impl_models.l1 step kq s a0 l1 x6_2 x7_2 x22_1 l1 (l1.length : Int) x22_1 (rd_L1 l1 x22_1) ((rd_L1 l1 x22_1).length : Int) x29_2 = some r) ∧ Aside0 (kq ≤ k1) ∧ Aside0 (Kd.R (Kd.int .i64) 3 w' w.heap.size (fun k_ => some k_ ≠ (v245 : Value).ownBlock) v242 x6_2) ∧ Aside0 (Kd.R (Kd.int .i64) 3 w' w.heap.size (fun k_ => some k_ ≠ (v242 : Value).ownBlock) v245 x7_2) ∧ Aside0 (Below w.heap.size w w'))
        case atStart => exact ⟨(x6_1), (x7_1), (0), (by first | rfl | (simp; done) | (simp [*]; done)), H', ⟨Nat.le_refl _⟩, ⟨by (with_reducible repeat (first | apply Kd.R_alloc | apply Kd.R_drewN | apply Kd.R_drew)); exact HO_6.out⟩, ⟨by (with_reducible repeat (first | apply Kd.R_alloc | apply Kd.R_drewN | apply Kd.R_drew)); exact HO_7.out⟩, ⟨by repeat (first | (with_reducible first | exact HB.out | apply bwA | apply bwN | apply bwD) | exact HB.out)⟩⟩
        case round =>
         clear H'
         try clear c1
         try clear c2
         try clear p2
         try clear q2
         try clear hx2
         try clear c4
         try clear c4b0
         try clear c4b1
         try clear c5
         try clear c5b0
         try clear c5b1
         try clear c7
         try clear c12
         try clear c12b0
         try clear c13
         try clear c13b0
         try clear c14
         try clear c14b0
         try clear hx247_0
         try clear p2
         try clear p247
         try clear q247
         obtain ⟨x6_2, x7_2, x29_2, rfl, HA, HK2, HO_6, HO_7, HB⟩ := hrel
         cases gk with
         | zero => exact absurd HA.out (by simp [impl_models.l1])
         | succ k2 =>
          have H := HA.out
          clear HA
          simp only [impl_models.l1] at H
          by_cases c15 : x29_2 < ((rd_L1 l1 x22_1).length : Int)
          ·rw [if_pos c15] at H
           have c15b0 : decide (x29_2 < ((rd_L1 l1 x22_1).length : Int)) = true := decide_eq_true c15
           clear c15
           by_cases c16 : 0 ≤ x29_2
           ·rw [if_pos c16] at H
            have c16b0 : decide (0 ≤ x29_2) = true := decide_eq_true c16
            clear c16
            by_cases c17 : x29_2 < ((rd_L1 l1 x22_1).length : Int)
            ·rw [if_pos c17] at H
             have c17b0 : decide (x29_2 < ((rd_L1 l1 x22_1).length : Int)) = true := decide_eq_true c17
             clear c17
             by_cases c18 : (rd (rd_L1 l1 x22_1) x29_2) > 0
             ·rw [if_pos c18] at H
              have c18b0 : decide (0 < (rd (rd_L1 l1 x22_1) x29_2)) = true := decide_eq_true c18
              clear c18
              by_cases c19 : 0 ≤ x22_1
              ·rw [if_pos c19] at H
               have c19b0 : decide (0 ≤ x22_1) = true := decide_eq_true c19
               clear c19
               by_cases c20 : x22_1 < (x6_2.length : Int)
               ·rw [if_pos c20] at H
                have c20b0 : decide (x22_1 < (x6_2.length : Int)) = true := decide_eq_true c20
                clear c20
                obtain ⟨ji21, hji21⟩ : ∃ j_ : Int, (wrap64 ((rd (rd_L1 l1 x22_1) x29_2) - 1)) = j_ := ⟨_, rfl⟩
                replace H : (if 0 ≤ (ji21) then (impl_models.l1 step k2 s a0 l1 (x6_2.set (x22_1 : Int).toNat (Go.bits .or .i64 (rd x6_2 x22_1) (shl .i64 1 (ji21)))) x7_2 x22_1 l1 (l1.length : Int) x22_1 (rd_L1 l1 x22_1) ((rd_L1 l1 x22_1).length : Int) (wrap64 (x29_2 + 1))) else (none)) = some r := by first | (rw [hji21] at H; exact H) | (simp only [hji21] at H ⊢; exact H)
                have hji21w : (IntKind.i64.wrap ((rd (rd_L1 l1 x22_1) x29_2) - 1)) = ji21 := (i64_w _).trans hji21
                by_cases c22 : 0 ≤ (ji21)
                ·rw [if_pos c22] at H
                 have c22b0 := eq_true c22
                 have c22b1 : decide (0 ≤ (ji21)) = true := decide_eq_true c22
                 clear c22
                 obtain ⟨ji23, hji23⟩ : ∃ j_ : Int, (shl .i64 1 (ji21)) = j_ := ⟨_, rfl⟩
                 replace H : (impl_models.l1 step k2 s a0 l1 (x6_2.set (x22_1 : Int).toNat (Go.bits .or .i64 (rd x6_2 x22_1) (ji23))) x7_2 x22_1 l1 (l1.length : Int) x22_1 (rd_L1 l1 x22_1) ((rd_L1 l1 x22_1).length : Int) (wrap64 (x29_2 + 1))) = some r := by first | (rw [hji23] at H; exact H) | (simp only [hji23] at H ⊢; exact H)
                 have hji23_ : (IntKind.i64.wrap (1 * 2 ^ min (ji21).toNat 64)) = ji23 := hji23
                 have hji23z : (ji21) ≤ 64 → (IntKind.i64.wrap (1 * 2 ^ (ji21).toNat)) = ji23 := shl_small hji23
                 have hji23u : (IntKind.i64.wrap (2 ^ min (ji21).toNat 64)) = ji23 := by have h_ := hji23_; rw [Int.one_mul] at h_; exact h_
                 have hji23v : (ji21) ≤ 64 → (IntKind.i64.wrap (2 ^ (ji21).toNat)) = ji23 := fun hle_ => by have h_ := hji23z hle_; rw [Int.one_mul] at h_; exact h_
                 have hji23y : (wrap64 (1 * 2 ^ min (ji21).toNat 64)) = ji23 := (i64_w _).symm.trans hji23_
                 have hji23x : (ji21) ≤ 64 → (wrap64 (1 * 2 ^ (ji21).toNat)) = ji23 := fun h_ => (i64_w _).symm.trans (hji23z h_)
                 obtain ⟨y250, hy250⟩ : ∃ y_ : List Int, y_ = (x6_2.set (x22_1 : Int).toNat (Go.bits .or .i64 (rd x6_2 x22_1) (ji23))) := ⟨_, rfl⟩
                 replace H : (impl_models.l1 step k2 s a0 l1 y250 x7_2 x22_1 l1 (l1.length : Int) x22_1 (rd_L1 l1 x22_1) ((rd_L1 l1 x22_1).length : Int) (wrap64 (x29_2 + 1))) = some r := by first | (rw [hy250]; with_reducible exact H) | (have H2_ := (Option.bind_some _ _).symm.trans H; rw [hy250]; with_reducible exact H2_) | (have H2_ := (Option.bind_some _ _).symm.trans H; with_reducible exact H2_) | with_reducible exact H | (rw [hy250]; exact H) | exact H
                 have Ny250 := Aside0.mk hy250
                 clear hy250
                 have H' := Aside0.mk H
                 clear H
                 have p248 : 0 ≤ (x29_2 : Int) := of_decide_eq_true (by first | (with_reducible assumption) | assumption)
                 have q248 : x29_2 < ((rd_L1 l1 x22_1).length : Int) := of_decide_eq_true (by first | (with_reducible assumption) | assumption)
                 obtain ⟨ad248, e248, hx248_0⟩ := Kd.at_int HR247_0.out x29_2 p248 q248
                 cases e248
                 try replace hx248_0 := (HB.out.cell (World.block_lt_of_cell? w _ hx248_0)).trans hx248_0
                 replace p248 := eq_true p248
                 replace q248 := eq_true q248
                 try go_wp2
                 have n0_ := Aside0.mk (Kd.R_drew HO_6.out)
                 have n1_ := Aside0.mk (Kd.R_drew HO_7.out)
                 have n2_ := Aside0.mk (below_drew1 HB.out)
                 clear HO_6
                 clear HO_7
                 clear HB
                 have HO_6 := n0_
                 have HO_7 := n1_
                 have HB := n2_
                 clear n0_ n1_ n2_
                 obtain ⟨Ao26, co26, eo26⟩ := Kd.R_slice HO_6.out
                 (first | subst eo26 | (injection eo26 with f1_ f2_ f3_; have f4_ := f1_.symm; have f5_ := f3_.symm; clear f1_ f2_ f3_; subst f4_; subst f5_))
                 have p249 : 0 ≤ (x22_1 : Int) := of_decide_eq_true (by first | (with_reducible assumption) | assumption)
                 have q249 : x22_1 < (x6_2.length : Int) := of_decide_eq_true (by first | (with_reducible assumption) | assumption)
                 obtain ⟨ad249, e249, hx249_0⟩ := Kd.at_int (Kd.R_reads' HO_6.out).2.2 x22_1 p249 q249
                 cases e249
                 replace p249 := eq_true p249
                 replace q249 := eq_true q249
                 have p24 : 0 ≤ (x22_1 : Int) := of_decide_eq_true (by first | (with_reducible assumption) | assumption)
                 have q24 : (x22_1 : Int) < ((x6_2.length : Int) : Int) := of_decide_eq_true (by first | (with_reducible assumption) | assumption)
                 obtain ⟨go24, co24, eo24, gb24, gl24, cl24, HG24⟩ := Kd.R_form HO_6.out (by omega)
                 (first | cases eo24 | (injection eo24 with ea_ en_ ec_; (first | subst ea_ | (injection ea_ with ea_; subst ea_)); subst ec_; clear en_))
                 have GB24 := Aside0.mk gb24
                 have GG24 := Aside0.mk HG24
                 clear gb24 gl24 HG24
                 (first | simp only [add_plain] at hx249_0 | skip)
                 obtain ⟨hx24_0, hf24_0⟩ := Kd.R_celln 0 HO_6.out (x22_1 : Int) p24 q24
                 replace p24 := eq_true p24
                 replace q24 := eq_true q24
                 have HP27 := Kd.R_putn HO_6.out (x22_1 : Int) (Go.bits .or .i64 (rd x6_2 x22_1) (ji23))
                 rw [← Ny250.out] at HP27
                 have HQ27 := Aside0.mk HP27
                 clear HP27
                 refine start_ (n := 10) (S := fun w' => w'.cell? ⟨go24, (x22_1).toNat, none⟩ = some (.int .i64 (rd x6_2 x22_1))) (ds := [9]) #[false, false, false, false, false, false, false, false, false, false] (by kernel_rfl) rfl rfl (hx249_0) (fun hHeld => ?_); refine with_tabW impl_models.tab8 impl_models.bits8 (fun HT_ HW_ => ?_)
                 generalize wr.drew = w25 at HO_6 HO_7 HB GG24 HQ27 hf24_0 hx249_0 hx24_0 hHeld ⊢
                 refine pure_ (i := 0) (N := some 35) (v := ?_) (a' := ?_) #[true, false, false, false, false, false, false, false, false, false] rfl rfl (any_of HT_.out (by kernel_rfl)) (fun _ _ _ h => h) (Or.inl ⟨by rfl, ?_⟩) ?_ ?_
                 rotate_left
                 ·intro w'
                  go_simp
                  with_reducible rfl
                 rotate_left
                 ·simp only [Act.put, List.setIfInBounds_toArray, List.set_cons_zero, List.set_cons_succ, i64_w, i32_w]
                  rfl
                 refine pure_ (i := 1) (N := some 36) (v := ?_) (a' := ?_) #[true, true, false, false, false, false, false, false, false, false] rfl rfl (any_of HT_.out (by kernel_rfl)) (fun _ _ _ h => h) (Or.inl ⟨by rfl, ?_⟩) ?_ ?_
                 rotate_left
                 ·intro w'
                  go_simp
                  with_reducible rfl
                 rotate_left
                 ·simp only [Act.put, List.setIfInBounds_toArray, List.set_cons_zero, List.set_cons_succ, i64_w, i32_w]
                  rfl
                 refine pure_ (i := 2) (N := some 37) (v := ?_) (a' := ?_) #[true, true, true, false, false, false, false, false, false, false] rfl rfl (any_of HT_.out (by kernel_rfl)) (fun _ _ _ h => h) (Or.inl ⟨by rfl, ?_⟩) ?_ ?_
                 rotate_left
                 ·intro w'
                  go_simp
                  with_reducible rfl
                 rotate_left
                 ·simp only [Act.put, List.setIfInBounds_toArray, List.set_cons_zero, List.set_cons_succ, i64_w, i32_w]
                  rfl
                 refine pure_ (i := 4) (N := some 39) (v := ?_) (a' := ?_) #[true, true, true, false, true, false, false, false, false, false] rfl rfl (any_of HT_.out (by kernel_rfl)) (fun _ _ _ h => h) (Or.inl ⟨by rfl, ?_⟩) ?_ ?_
                 rotate_left
                 ·intro w'
                  go_simp
                  with_reducible rfl
                 rotate_left
                 ·simp only [Act.put, List.setIfInBounds_toArray, List.set_cons_zero, List.set_cons_succ, i64_w, i32_w]
                  rfl
                 refine pure_ (i := 5) (N := some 40) (v := ?_) (a' := ?_) #[true, true, true, false, true, true, false, false, false, false] rfl rfl (any_of HT_.out (by kernel_rfl)) (fun _ _ _ h => h) (Or.inl ⟨by rfl, ?_⟩) ?_ ?_
                 rotate_left
                 ·intro w'
                  go_simp
                  with_reducible rfl
                 rotate_left
                 ·simp only [Act.put, List.setIfInBounds_toArray, List.set_cons_zero, List.set_cons_succ, i64_w, i32_w]
                  rfl
                 refine pure_ (i := 6) (N := some 41) (v := ?_) (a' := ?_) #[true, true, true, false, true, true, true, false, false, false] rfl rfl (any_of HT_.out (by kernel_rfl)) (fun _ _ _ h => h) (Or.inl ⟨by rfl, ?_⟩) ?_ ?_
                 rotate_left
                 ·intro w'
                  go_simp
                  with_reducible rfl
                 rotate_left
                 ·simp only [Act.put, List.setIfInBounds_toArray, List.set_cons_zero, List.set_cons_succ, i64_w, i32_w]
                  rfl
                 refine take_ (i := 3) (N := some 38) (v := ?_) (a' := ?_) #[true, true, true, true, true, true, true, false, false, false] rfl rfl (take_ofW HT_.out HW_.out (by kernel_rfl)) (fun _ _ _ h => h) (Or.inl ⟨by rfl, ?_⟩) hHeld ?_ ?_
                 rotate_left
                 ·intro w' s0
                  go_simp
                  with_reducible rfl
                 rotate_left
                 ·simp only [Act.put, List.setIfInBounds_toArray, List.set_cons_zero, List.set_cons_succ, i64_w, i32_w]
                  rfl
                 refine pure_ (i := 7) (N := some 42) (v := ?_) (a' := ?_) #[true, true, true, true, true, true, true, true, false, false] rfl rfl (any_of HT_.out (by kernel_rfl)) (fun _ _ _ h => h) (Or.inl ⟨by rfl, ?_⟩) ?_ ?_
                 rotate_left
                 ·intro w'
                  go_simp
                  with_reducible rfl
                 rotate_left
                 ·simp only [Act.put, List.setIfInBounds_toArray, List.set_cons_zero, List.set_cons_succ, i64_w, i32_w]
                  rfl
                 refine pure_ (i := 8) (N := some 43) (v := ?_) (a' := ?_) #[true, true, true, true, true, true, true, true, true, false] rfl rfl (any_of HT_.out (by kernel_rfl)) (fun _ _ _ h => h) (Or.inl ⟨by rfl, ?_⟩) ?_ ?_
                 rotate_left
                 ·intro w'
                  go_simp
                  with_reducible rfl
                 rotate_left
                 ·simp only [Act.put, List.setIfInBounds_toArray, List.set_cons_zero, List.set_cons_succ, i64_w, i32_w]
                  rfl
                 refine last_ (i := 9) (N := none) #[true, true, true, true, true, true, true, true, true, true] rfl rfl (one_of HT_.out (by kernel_rfl)) (by decide) (fun K hK => ?_)
                 refine skip_ (w1 := ?_) (by rfl) rfl ?_ ?_
                 rotate_left
                 ·go_simp
                  rfl
                 refine hK.out _ _ ?_
                 clear hK K
                 refine done_ (done_of HT_.out (by kernel_rfl)) ?_
                 try go_wp2
                 go_roundg k2
                 case measure => have := HK1.out; have := HK2.out; omega
                 case rel => exact ⟨(y250), (x7_2), (wrap64 (x29_2 + 1)), (by first | rfl | (simp; done) | (simp [*]; done)), H', ⟨by have := HK1.out; have := HK2.out; omega⟩, ⟨by (with_reducible repeat (first | apply Kd.R_alloc | apply Kd.R_drewN | apply Kd.R_drew)); exact HQ27.out⟩, ⟨by (with_reducible repeat (first | apply Kd.R_alloc | apply Kd.R_drewN | apply Kd.R_drew)); exact Kd.R_mono (Kd.R_far (p := ⟨go24, (x22_1 : Int).toNat, none⟩) (Kd.R_mono HO_7.out (fun k_ hk => (⟨hk, fun e_ => hk (by rw [e_]; rfl)⟩ : _ ∧ k_ ≠ go24))) (fun _ hk => hk.2) (.int .i64 (Go.bits .or .i64 (rd x6_2 x22_1) (ji23)))) (fun _ hk => hk.1)⟩, ⟨by repeat (first | (with_reducible first | exact HB.out | apply bwA | apply bwN | apply bwD | refine below_set ?_ GB24.out) | exact HB.out)⟩⟩
                ·rw [if_neg c22] at H
                 exact absurd H (by simp)
               ·rw [if_neg c20] at H
                exact absurd H (by simp)
              ·rw [if_neg c19] at H
               exact absurd H (by simp)
             ·rw [if_neg c18] at H
              have c18b0 : decide (0 < (rd (rd_L1 l1 x22_1) x29_2)) = false := decide_eq_false c18
              clear c18
              by_cases c28 : 0 ≤ x22_1
              ·rw [if_pos c28] at H
               have c28b0 : decide (0 ≤ x22_1) = true := decide_eq_true c28
               clear c28
               by_cases c29 : x22_1 < (x7_2.length : Int)
               ·rw [if_pos c29] at H
                have c29b0 : decide (x22_1 < (x7_2.length : Int)) = true := decide_eq_true c29
                clear c29
                obtain ⟨ji30, hji30⟩ : ∃ j_ : Int, (wrap64 ((wrap64 (-(rd (rd_L1 l1 x22_1) x29_2))) - 1)) = j_ := ⟨_, rfl⟩
                replace H : (if 0 ≤ (ji30) then (impl_models.l1 step k2 s a0 l1 x6_2 (x7_2.set (x22_1 : Int).toNat (Go.bits .or .i64 (rd x7_2 x22_1) (shl .i64 1 (ji30)))) x22_1 l1 (l1.length : Int) x22_1 (rd_L1 l1 x22_1) ((rd_L1 l1 x22_1).length : Int) (wrap64 (x29_2 + 1))) else (none)) = some r := by first | (rw [hji30] at H; exact H) | (simp only [hji30] at H ⊢; exact H)
                have hji30w : (IntKind.i64.wrap ((wrap64 (-(rd (rd_L1 l1 x22_1) x29_2))) - 1)) = ji30 := (i64_w _).trans hji30
                by_cases c31 : 0 ≤ (ji30)
                ·rw [if_pos c31] at H
                 have c31b0 := eq_true c31
                 have c31b1 : decide (0 ≤ (ji30)) = true := decide_eq_true c31
                 clear c31
                 obtain ⟨ji32, hji32⟩ : ∃ j_ : Int, (shl .i64 1 (ji30)) = j_ := ⟨_, rfl⟩
                 replace H : (impl_models.l1 step k2 s a0 l1 x6_2 (x7_2.set (x22_1 : Int).toNat (Go.bits .or .i64 (rd x7_2 x22_1) (ji32))) x22_1 l1 (l1.length : Int) x22_1 (rd_L1 l1 x22_1) ((rd_L1 l1 x22_1).length : Int) (wrap64 (x29_2 + 1))) = some r := by first | (rw [hji32] at H; exact H) | (simp only [hji32] at H ⊢; exact H)
                 have hji32_ : (IntKind.i64.wrap (1 * 2 ^ min (ji30).toNat 64)) = ji32 := hji32
                 have hji32z : (ji30) ≤ 64 → (IntKind.i64.wrap (1 * 2 ^ (ji30).toNat)) = ji32 := shl_small hji32
                 have hji32u : (IntKind.i64.wrap (2 ^ min (ji30).toNat 64)) = ji32 := by have h_ := hji32_; rw [Int.one_mul] at h_; exact h_
                 have hji32v : (ji30) ≤ 64 → (IntKind.i64.wrap (2 ^ (ji30).toNat)) = ji32 := fun hle_ => by have h_ := hji32z hle_; rw [Int.one_mul] at h_; exact h_
                 have hji32y : (wrap64 (1 * 2 ^ min (ji30).toNat 64)) = ji32 := (i64_w _).symm.trans hji32_
                 have hji32x : (ji30) ≤ 64 → (wrap64 (1 * 2 ^ (ji30).toNat)) = ji32 := fun h_ => (i64_w _).symm.trans (hji32z h_)
                 obtain ⟨y252, hy252⟩ : ∃ y_ : List Int, y_ = (x7_2.set (x22_1 : Int).toNat (Go.bits .or .i64 (rd x7_2 x22_1) (ji32))) := ⟨_, rfl⟩
                 replace H : (impl_models.l1 step k2 s a0 l1 x6_2 y252 x22_1 l1 (l1.length : Int) x22_1 (rd_L1 l1 x22_1) ((rd_L1 l1 x22_1).length : Int) (wrap64 (x29_2 + 1))) = some r := by first | (rw [hy252]; with_reducible exact H) | (have H2_ := (Option.bind_some _ _).symm.trans H; rw [hy252]; with_reducible exact H2_) | (have H2_ := (Option.bind_some _ _).symm.trans H; with_reducible exact H2_) | with_reducible exact H | (rw [hy252]; exact H) | exact H
                 have Ny252 := Aside0.mk hy252
                 clear hy252
                 have H' := Aside0.mk H
                 clear H
                 have p248 : 0 ≤ (x29_2 : Int) := of_decide_eq_true (by first | (with_reducible assumption) | assumption)
                 have q248 : x29_2 < ((rd_L1 l1 x22_1).length : Int) := of_decide_eq_true (by first | (with_reducible assumption) | assumption)
                 obtain ⟨ad248, e248, hx248_0⟩ := Kd.at_int HR247_0.out x29_2 p248 q248
                 cases e248
                 try replace hx248_0 := (HB.out.cell (World.block_lt_of_cell? w _ hx248_0)).trans hx248_0
                 replace p248 := eq_true p248
                 replace q248 := eq_true q248
                 try go_wp2
                 have n0_ := Aside0.mk (Kd.R_drew HO_6.out)
                 have n1_ := Aside0.mk (Kd.R_drew HO_7.out)
                 have n2_ := Aside0.mk (below_drew1 HB.out)
                 clear HO_6
                 clear HO_7
                 clear HB
                 have HO_6 := n0_
                 have HO_7 := n1_
                 have HB := n2_
                 clear n0_ n1_ n2_
                 obtain ⟨Ao35, co35, eo35⟩ := Kd.R_slice HO_7.out
                 (first | subst eo35 | (injection eo35 with f1_ f2_ f3_; have f4_ := f1_.symm; have f5_ := f3_.symm; clear f1_ f2_ f3_; subst f4_; subst f5_))
                 have p251 : 0 ≤ (x22_1 : Int) := of_decide_eq_true (by first | (with_reducible assumption) | assumption)
                 have q251 : x22_1 < (x7_2.length : Int) := of_decide_eq_true (by first | (with_reducible assumption) | assumption)
                 obtain ⟨ad251, e251, hx251_0⟩ := Kd.at_int (Kd.R_reads' HO_7.out).2.2 x22_1 p251 q251
                 cases e251
                 replace p251 := eq_true p251
                 replace q251 := eq_true q251
                 have p33 : 0 ≤ (x22_1 : Int) := of_decide_eq_true (by first | (with_reducible assumption) | assumption)
                 have q33 : (x22_1 : Int) < ((x7_2.length : Int) : Int) := of_decide_eq_true (by first | (with_reducible assumption) | assumption)
                 obtain ⟨go33, co33, eo33, gb33, gl33, cl33, HG33⟩ := Kd.R_form HO_7.out (by omega)
                 (first | cases eo33 | (injection eo33 with ea_ en_ ec_; (first | subst ea_ | (injection ea_ with ea_; subst ea_)); subst ec_; clear en_))
                 have GB33 := Aside0.mk gb33
                 have GG33 := Aside0.mk HG33
                 clear gb33 gl33 HG33
                 (first | simp only [add_plain] at hx251_0 | skip)
                 obtain ⟨hx33_0, hf33_0⟩ := Kd.R_celln 0 HO_7.out (x22_1 : Int) p33 q33
                 replace p33 := eq_true p33
                 replace q33 := eq_true q33
                 have HP36 := Kd.R_putn HO_7.out (x22_1 : Int) (Go.bits .or .i64 (rd x7_2 x22_1) (ji32))
                 rw [← Ny252.out] at HP36
                 have HQ36 := Aside0.mk HP36
                 clear HP36
                 refine start_ (n := 11) (S := fun w' => w'.cell? ⟨go33, (x22_1).toNat, none⟩ = some (.int .i64 (rd x7_2 x22_1))) (ds := [10]) #[false, false, false, false, false, false, false, false, false, false, false] (by kernel_rfl) rfl rfl (hx251_0) (fun hHeld => ?_); refine with_tabW impl_models.tab9 impl_models.bits9 (fun HT_ HW_ => ?_)
                 generalize wr.drew = w34 at HO_6 HO_7 HB GG33 HQ36 hf33_0 hx251_0 hx33_0 hHeld ⊢
                 refine pure_ (i := 0) (N := some 44) (v := ?_) (a' := ?_) #[true, false, false, false, false, false, false, false, false, false, false] rfl rfl (any_of HT_.out (by kernel_rfl)) (fun _ _ _ h => h) (Or.inl ⟨by rfl, ?_⟩) ?_ ?_
                 rotate_left
                 ·intro w'
                  go_simp
                  with_reducible rfl
                 rotate_left
                 ·simp only [Act.put, List.setIfInBounds_toArray, List.set_cons_zero, List.set_cons_succ, i64_w, i32_w]
                  rfl
                 refine pure_ (i := 1) (N := some 45) (v := ?_) (a' := ?_) #[true, true, false, false, false, false, false, false, false, false, false] rfl rfl (any_of HT_.out (by kernel_rfl)) (fun _ _ _ h => h) (Or.inl ⟨by rfl, ?_⟩) ?_ ?_
                 rotate_left
                 ·intro w'
                  go_simp
                  with_reducible rfl
                 rotate_left
                 ·simp only [Act.put, List.setIfInBounds_toArray, List.set_cons_zero, List.set_cons_succ, i64_w, i32_w]
                  rfl
                 refine pure_ (i := 2) (N := some 46) (v := ?_) (a' := ?_) #[true, true, true, false, false, false, false, false, false, false, false] rfl rfl (any_of HT_.out (by kernel_rfl)) (fun _ _ _ h => h) (Or.inl ⟨by rfl, ?_⟩) ?_ ?_
                 rotate_left
                 ·intro w'
                  go_simp
                  with_reducible rfl
                 rotate_left
                 ·simp only [Act.put, List.setIfInBounds_toArray, List.set_cons_zero, List.set_cons_succ, i64_w, i32_w]
                  rfl
                 refine pure_ (i := 4) (N := some 48) (v := ?_) (a' := ?_) #[true, true, true, false, true, false, false, false, false, false, false] rfl rfl (any_of HT_.out (by kernel_rfl)) (fun _ _ _ h => h) (Or.inl ⟨by rfl, ?_⟩) ?_ ?_
                 rotate_left
                 ·intro w'
                  go_simp
                  with_reducible rfl
                 rotate_left
                 ·simp only [Act.put, List.setIfInBounds_toArray, List.set_cons_zero, List.set_cons_succ, i64_w, i32_w]
                  rfl
                 refine pure_ (i := 5) (N := some 49) (v := ?_) (a' := ?_) #[true, true, true, false, true, true, false, false, false, false, false] rfl rfl (any_of HT_.out (by kernel_rfl)) (fun _ _ _ h => h) (Or.inl ⟨by rfl, ?_⟩) ?_ ?_
                 rotate_left
                 ·intro w'
                  go_simp
                  with_reducible rfl
                 rotate_left
                 ·simp only [Act.put, List.setIfInBounds_toArray, List.set_cons_zero, List.set_cons_succ, i64_w, i32_w]
                  rfl
                 refine pure_ (i := 6) (N := some 50) (v := ?_) (a' := ?_) #[true, true, true, false, true, true, true, false, false, false, false] rfl rfl (any_of HT_.out (by kernel_rfl)) (fun _ _ _ h => h) (Or.inl ⟨by rfl, ?_⟩) ?_ ?_
                 rotate_left
                 ·intro w'
                  go_simp
                  with_reducible rfl
                 rotate_left
                 ·simp only [Act.put, List.setIfInBounds_toArray, List.set_cons_zero, List.set_cons_succ, i64_w, i32_w]
                  rfl
                 refine pure_ (i := 7) (N := some 51) (v := ?_) (a' := ?_) #[true, true, true, false, true, true, true, true, false, false, false] rfl rfl (any_of HT_.out (by kernel_rfl)) (fun _ _ _ h => h) (Or.inl ⟨by rfl, ?_⟩) ?_ ?_
                 rotate_left
                 ·intro w'
                  go_simp
                  with_reducible rfl
                 rotate_left
                 ·simp only [Act.put, List.setIfInBounds_toArray, List.set_cons_zero, List.set_cons_succ, i64_w, i32_w]
                  rfl
                 refine take_ (i := 3) (N := some 47) (v := ?_) (a' := ?_) #[true, true, true, true, true, true, true, true, false, false, false] rfl rfl (take_ofW HT_.out HW_.out (by kernel_rfl)) (fun _ _ _ h => h) (Or.inl ⟨by rfl, ?_⟩) hHeld ?_ ?_
                 rotate_left
                 ·intro w' s0
                  go_simp
                  with_reducible rfl
                 rotate_left
                 ·simp only [Act.put, List.setIfInBounds_toArray, List.set_cons_zero, List.set_cons_succ, i64_w, i32_w]
                  rfl
                 refine pure_ (i := 8) (N := some 52) (v := ?_) (a' := ?_) #[true, true, true, true, true, true, true, true, true, false, false] rfl rfl (any_of HT_.out (by kernel_rfl)) (fun _ _ _ h => h) (Or.inl ⟨by rfl, ?_⟩) ?_ ?_
                 rotate_left
                 ·intro w'
                  go_simp
                  with_reducible rfl
                 rotate_left
                 ·simp only [Act.put, List.setIfInBounds_toArray, List.set_cons_zero, List.set_cons_succ, i64_w, i32_w]
                  rfl
                 refine pure_ (i := 9) (N := some 53) (v := ?_) (a' := ?_) #[true, true, true, true, true, true, true, true, true, true, false] rfl rfl (any_of HT_.out (by kernel_rfl)) (fun _ _ _ h => h) (Or.inl ⟨by rfl, ?_⟩) ?_ ?_
                 rotate_left
                 ·intro w'
                  go_simp
                  with_reducible rfl
                 rotate_left
                 ·simp only [Act.put, List.setIfInBounds_toArray, List.set_cons_zero, List.set_cons_succ, i64_w, i32_w]
                  rfl
                 refine last_ (i := 10) (N := none) #[true, true, true, true, true, true, true, true, true, true, true] rfl rfl (one_of HT_.out (by kernel_rfl)) (by decide) (fun K hK => ?_)
                 refine skip_ (w1 := ?_) (by rfl) rfl ?_ ?_
                 rotate_left
                 ·go_simp
                  rfl
                 refine hK.out _ _ ?_
                 clear hK K
                 refine done_ (done_of HT_.out (by kernel_rfl)) ?_
                 try go_wp2
                 go_roundg k2
                 case measure => have := HK1.out; have := HK2.out; omega
                 case rel => exact ⟨(x6_2), (y252), (wrap64 (x29_2 + 1)), (by first | rfl | (simp; done) | (simp [*]; done)), H', ⟨by have := HK1.out; have := HK2.out; omega⟩, ⟨by (with_reducible repeat (first | apply Kd.R_alloc | apply Kd.R_drewN | apply Kd.R_drew)); exact Kd.R_mono (Kd.R_far (p := ⟨go33, (x22_1 : Int).toNat, none⟩) (Kd.R_mono HO_6.out (fun k_ hk => (⟨hk, fun e_ => hk (by rw [e_]; rfl)⟩ : _ ∧ k_ ≠ go33))) (fun _ hk => hk.2) (.int .i64 (Go.bits .or .i64 (rd x7_2 x22_1) (ji32)))) (fun _ hk => hk.1)⟩, ⟨by (with_reducible repeat (first | apply Kd.R_alloc | apply Kd.R_drewN | apply Kd.R_drew)); exact HQ36.out⟩, ⟨by repeat (first | (with_reducible first | exact HB.out | apply bwA | apply bwN | apply bwD | refine below_set ?_ GB33.out) | exact HB.out)⟩⟩
                ·rw [if_neg c31] at H
                 exact absurd H (by simp)
               ·rw [if_neg c29] at H
                exact absurd H (by simp)
              ·rw [if_neg c28] at H
               exact absurd H (by simp)
            ·rw [if_neg c17] at H
             exact absurd H (by simp)
           ·rw [if_neg c16] at H
            exact absurd H (by simp)
          ·rw [if_neg c15] at H
           have c15b0 : decide (x29_2 < ((rd_L1 l1 x22_1).length : Int)) = false := decide_eq_false c15
           clear c15
           have H' := Aside0.mk H
           clear H
           go_wp2
           go_roundg k2
           case measure => have := HK1.out; have := HK2.out; omega
           case rel => exact ⟨(x6_2), (x7_2), (wrap64 (x22_1 + 1)), (by first | rfl | (simp; done) | (simp [*]; done)), H', ⟨by have := HK1.out; have := HK2.out; omega⟩, ⟨by (with_reducible repeat (first | apply Kd.R_alloc | apply Kd.R_drewN | apply Kd.R_drew)); exact HO_6.out⟩, ⟨by (with_reducible repeat (first | apply Kd.R_alloc | apply Kd.R_drewN | apply Kd.R_drew)); exact HO_7.out⟩, ⟨by repeat (first | (with_reducible first | exact HB.out | apply bwA | apply bwN | apply bwD) | exact HB.out)⟩⟩
       ·rw [if_neg c14] at H
        exact absurd H (by simp)
      ·rw [if_neg c13] at H
       exact absurd H (by simp)
     ·rw [if_neg c12] at H
      have c12b0 : decide (x22_1 < (l1.length : Int)) = false := decide_eq_false c12
      clear c12
      by_cases c37 : 0 ≤ a0
      ·rw [if_pos c37] at H
       have c37b0 := eq_true c37
       have c37b1 : decide (0 ≤ a0) = true := decide_eq_true c37
       clear c37
       obtain ⟨ji38, hji38⟩ : ∃ j_ : Int, (shl .i64 1 a0) = j_ := ⟨_, rfl⟩
       replace H : (impl_models.l2 step k1 s l1 x6_1 x7_1 ji38 0) = some r := by first | (rw [hji38] at H; exact H) | (simp only [hji38] at H ⊢; exact H)
       have hji38_ : (IntKind.i64.wrap (1 * 2 ^ min a0.toNat 64)) = ji38 := hji38
       have hji38z : a0 ≤ 64 → (IntKind.i64.wrap (1 * 2 ^ a0.toNat)) = ji38 := shl_small hji38
       have hji38u : (IntKind.i64.wrap (2 ^ min a0.toNat 64)) = ji38 := by have h_ := hji38_; rw [Int.one_mul] at h_; exact h_
       have hji38v : a0 ≤ 64 → (IntKind.i64.wrap (2 ^ a0.toNat)) = ji38 := fun hle_ => by have h_ := hji38z hle_; rw [Int.one_mul] at h_; exact h_
       have hji38y : (wrap64 (1 * 2 ^ min a0.toNat 64)) = ji38 := (i64_w _).symm.trans hji38_
       have hji38x : a0 ≤ 64 → (wrap64 (1 * 2 ^ a0.toNat)) = ji38 := fun h_ => (i64_w _).symm.trans (hji38z h_)
       have H' := Aside0.mk H
       clear H
       go_wp2; go_step3; go_wp2
       go_loopg [58] k1 (fun kq v58 w' => ∃ (s1_ : σ) (x58_2 : Int), v58 = .int .i64 x58_2 ∧ Aside0 (impl_models.l2 step kq s1_ l1 x6_1 x7_1 ji38 x58_2 = some r) ∧ Aside0 (kq ≤ k1) ∧ Aside0 (Kd.R (Kd.int .i64) 3 w' w.heap.size (fun k_ => some k_ ≠ (v245 : Value).ownBlock) v242 x6_1) ∧ Aside0 (Kd.R (Kd.int .i64) 3 w' w.heap.size (fun k_ => some k_ ≠ (v242 : Value).ownBlock) v245 x7_1) ∧ Aside0 (I s1_ w') ∧ Aside0 (Below B w0 w'))
       case atStart => exact ⟨s, (0), (by first | rfl | (simp; done) | (simp [*]; done)), H', ⟨Nat.le_refl _⟩, ⟨by (with_reducible repeat (first | apply Kd.R_alloc | apply Kd.R_drewN | apply Kd.R_drew)); exact HO_6.out⟩, ⟨by (with_reducible repeat (first | apply Kd.R_alloc | apply Kd.R_drewN | apply Kd.R_drew)); exact HO_7.out⟩, ⟨HI.out _ _ _ HI0.out (fun i hi => HB.out.block i (HS.out i hi))⟩, ⟨HB0.out.trans ((HB.out.mono HBw.out))⟩⟩
       case round =>
        clear H'
        try clear c1
        try clear c2
        try clear p2
        try clear q2
        try clear hx2
        try clear c3
        try clear p3
        try clear q3
        try clear hx3
        try clear hf3
        try clear c4
        try clear c4b0
        try clear c4b1
        try clear c5
        try clear c5b0
        try clear c5b1
        try clear p6
        try clear c7
        try clear c12
        try clear c12b0
        try clear c13
        try clear c13b0
        try clear c14
        try clear c14b0
        try clear c15
        try clear c15b0
        try clear c16
        try clear c16b0
        try clear c17
        try clear c17b0
        try clear c18
        try clear c18b0
        try clear c19
        try clear c19b0
        try clear c20
        try clear c20b0
        try clear c22
        try clear c22b0
        try clear c22b1
        try clear c24
        try clear p24
        try clear q24
        try clear hx24
        try clear hf24
        try clear p25
        try clear q25
        try clear hx25
        try clear c28
        try clear c28b0
        try clear c29
        try clear c29b0
        try clear c31
        try clear c31b0
        try clear c31b1
        try clear p33
        try clear q33
        try clear hx33
        try clear hf33
        try clear c37
        try clear c37b0
        try clear c37b1
        try clear hx247_0
        try clear hx248_0
        try clear hx249_0
        try clear hx24_0
        try clear hx251_0
        try clear hx33_0
        try clear p2
        try clear p24
        try clear p247
        try clear p248
        try clear p249
        try clear p251
        try clear p33
        try clear q2
        try clear q24
        try clear q247
        try clear q248
        try clear q249
        try clear q251
        try clear q33
        obtain ⟨s1_, x58_2, rfl, HA, HK2, HO_6, HO_7, HIs, HB⟩ := hrel
        cases gk with
        | zero => exact absurd HA.out (by simp [impl_models.l2])
        | succ k2 =>
         have H := HA.out
         clear HA
         simp only [impl_models.l2] at H
         by_cases c39 : x58_2 < ji38
         ·rw [if_pos c39] at H
          have c39b0 : decide (x58_2 < ji38) = true := decide_eq_true c39
          clear c39
          have H' := Aside0.mk H
          clear H
          go_wp2
          go_loopg [63] k2 (fun kq v63 w' => ∃ (x63_3 : Int), v63 = .int .i64 x63_3 ∧ Aside0 (impl_models.l3 step kq s1_ l1 x6_1 x7_1 x58_2 ji38 x58_2 (l1.length : Int) x63_3 = some r) ∧ Aside0 (kq ≤ k2) ∧ Aside0 (Kd.R (Kd.int .i64) 3 w' w.heap.size (fun k_ => some k_ ≠ (v245 : Value).ownBlock) v242 x6_1) ∧ Aside0 (Kd.R (Kd.int .i64) 3 w' w.heap.size (fun k_ => some k_ ≠ (v242 : Value).ownBlock) v245 x7_1) ∧ Aside0 (I s1_ w') ∧ Aside0 (Below B w0 w'))
          case atStart => exact ⟨(0), (by first | rfl | (simp; done) | (simp [*]; done)), H', ⟨Nat.le_refl _⟩, ⟨by (with_reducible repeat (first | apply Kd.R_alloc | apply Kd.R_drewN | apply Kd.R_drew)); exact HO_6.out⟩, ⟨by (with_reducible repeat (first | apply Kd.R_alloc | apply Kd.R_drewN | apply Kd.R_drew)); exact HO_7.out⟩, HIs, HB⟩
          case round =>
           clear H'
           try clear c1
           try clear c2
           try clear p2
           try clear q2
           try clear hx2
           try clear c3
           try clear p3
           try clear q3
           try clear hx3
           try clear hf3
           try clear c4
           try clear c4b0
           try clear c4b1
           try clear c5
           try clear c5b0
           try clear c5b1
           try clear p6
           try clear c7
           try clear c12
           try clear c12b0
           try clear c13
           try clear c13b0
           try clear c14
           try clear c14b0
           try clear c15
           try clear c15b0
           try clear c16
           try clear c16b0
           try clear c17
           try clear c17b0
           try clear c18
           try clear c18b0
           try clear c19
           try clear c19b0
           try clear c20
           try clear c20b0
           try clear c22
           try clear c22b0
           try clear c22b1
           try clear c24
           try clear p24
           try clear q24
           try clear hx24
           try clear hf24
           try clear p25
           try clear q25
           try clear hx25
           try clear c28
           try clear c28b0
           try clear c29
           try clear c29b0
           try clear c31
           try clear c31b0
           try clear c31b1
           try clear p33
           try clear q33
           try clear hx33
           try clear hf33
           try clear c37
           try clear c37b0
           try clear c37b1
           try clear c39
           try clear c39b0
           try clear hx247_0
           try clear hx248_0
           try clear hx249_0
           try clear hx24_0
           try clear hx251_0
           try clear hx33_0
           try clear p2
           try clear p24
           try clear p247
           try clear p248
           try clear p249
           try clear p25
           try clear p251
           try clear p3
           try clear p33
           try clear p6
           try clear q2
           try clear q24
           try clear q247
           try clear q248
           try clear q249
           try clear q25
           try clear q251
           try clear q3
           try clear q33
           obtain ⟨x63_3, rfl, HA, HK3, HO_6, HO_7, HIs, HB⟩ := hrel
           cases gk with
           | zero => exact absurd HA.out (by simp [impl_models.l3])
           | succ k3 =>
            have H := HA.out
            clear HA
            simp only [impl_models.l3] at H
            by_cases c40 : x63_3 < (l1.length : Int)
            ·rw [if_pos c40] at H
             have c40b0 : decide (x63_3 < (l1.length : Int)) = true := decide_eq_true c40
             clear c40
             by_cases c41 : 0 ≤ x63_3
             ·rw [if_pos c41] at H
              have c41b0 : decide (0 ≤ x63_3) = true := decide_eq_true c41
              clear c41
              by_cases c42 : x63_3 < (x6_1.length : Int)
              ·rw [if_pos c42] at H
               have c42b0 : decide (x63_3 < (x6_1.length : Int)) = true := decide_eq_true c42
               clear c42
               by_cases c43 : (Go.bits .and .i64 x58_2 (rd x6_1 x63_3)) = 0
               ·rw [if_pos c43] at H
                have c43b0 : ((Go.bits .and .i64 x58_2 (rd x6_1 x63_3)) == 0) = true := beq_iff_eq.mpr c43
                have c43b1 : ((Go.bits .and .i64 x58_2 (rd x6_1 x63_3)) != 0) = false := bne_eq_false_iff_eq.mpr c43
                clear c43
                by_cases c44 : x63_3 < (x7_1.length : Int)
                ·rw [if_pos c44] at H
                 have c44b0 : decide (x63_3 < (x7_1.length : Int)) = true := decide_eq_true c44
                 clear c44
                 by_cases c45 : (Go.bits .and .i64 (Go.bits .xor .i64 (-1) x58_2) (rd x7_1 x63_3)) = 0
                 ·rw [if_pos c45] at H
                  have c45b0 : ((Go.bits .and .i64 (Go.bits .xor .i64 (-1) x58_2) (rd x7_1 x63_3)) == 0) = true := beq_iff_eq.mpr c45
                  have c45b1 : ((Go.bits .and .i64 (Go.bits .xor .i64 (-1) x58_2) (rd x7_1 x63_3)) != 0) = false := bne_eq_false_iff_eq.mpr c45
                  clear c45
                  have H' := Aside0.mk H
                  clear H
                  obtain ⟨Ao46, co46, eo46⟩ := Kd.R_slice HO_6.out
                  subst eo46
                  have p253 : 0 ≤ (x63_3 : Int) := of_decide_eq_true (by first | (with_reducible assumption) | assumption)
                  have q253 : x63_3 < (x6_1.length : Int) := of_decide_eq_true (by first | (with_reducible assumption) | assumption)
                  obtain ⟨ad253, e253, hx253_0⟩ := Kd.at_int (Kd.R_reads' HO_6.out).2.2 x63_3 p253 q253
                  cases e253
                  replace p253 := eq_true p253
                  replace q253 := eq_true q253
                  obtain ⟨Ao47, co47, eo47⟩ := Kd.R_slice HO_7.out
                  subst eo47
                  have p254 : 0 ≤ (x63_3 : Int) := of_decide_eq_true (by first | (with_reducible assumption) | assumption)
                  have q254 : x63_3 < (x7_1.length : Int) := of_decide_eq_true (by first | (with_reducible assumption) | assumption)
                  obtain ⟨ad254, e254, hx254_0⟩ := Kd.at_int (Kd.R_reads' HO_7.out).2.2 x63_3 p254 q254
                  cases e254
                  replace p254 := eq_true p254
                  replace q254 := eq_true q254
                  go_wp2
                  go_roundg k3
                  case measure => have := HK1.out; have := HK2.out; have := HK3.out; omega
                  case rel => exact ⟨s1_, (wrap64 (x58_2 + 1)), (by first | rfl | (simp; done) | (simp [*]; done)), H', ⟨by have := HK1.out; have := HK2.out; have := HK3.out; omega⟩, ⟨by (with_reducible repeat (first | apply Kd.R_alloc | apply Kd.R_drewN | apply Kd.R_drew)); exact HO_6.out⟩, ⟨by (with_reducible repeat (first | apply Kd.R_alloc | apply Kd.R_drewN | apply Kd.R_drew)); exact HO_7.out⟩, HIs, HB⟩
                 ·rw [if_neg c45] at H
                  have c45b0 : ((Go.bits .and .i64 (Go.bits .xor .i64 (-1) x58_2) (rd x7_1 x63_3)) == 0) = false := beq_eq_false_iff_ne.mpr c45
                  have c45b1 : ((Go.bits .and .i64 (Go.bits .xor .i64 (-1) x58_2) (rd x7_1 x63_3)) != 0) = true := bne_iff_ne.mpr c45
                  have H' := Aside0.mk H
                  clear H
                  obtain ⟨Ao48, co48, eo48⟩ := Kd.R_slice HO_6.out
                  subst eo48
                  have p253 : 0 ≤ (x63_3 : Int) := of_decide_eq_true (by first | (with_reducible assumption) | assumption)
                  have q253 : x63_3 < (x6_1.length : Int) := of_decide_eq_true (by first | (with_reducible assumption) | assumption)
                  obtain ⟨ad253, e253, hx253_0⟩ := Kd.at_int (Kd.R_reads' HO_6.out).2.2 x63_3 p253 q253
                  cases e253
                  replace p253 := eq_true p253
                  replace q253 := eq_true q253
                  obtain ⟨Ao49, co49, eo49⟩ := Kd.R_slice HO_7.out
                  subst eo49
                  have p254 : 0 ≤ (x63_3 : Int) := of_decide_eq_true (by first | (with_reducible assumption) | assumption)
                  have q254 : x63_3 < (x7_1.length : Int) := of_decide_eq_true (by first | (with_reducible assumption) | assumption)
                  obtain ⟨ad254, e254, hx254_0⟩ := Kd.at_int (Kd.R_reads' HO_7.out).2.2 x63_3 p254 q254
                  cases e254
                  replace p254 := eq_true p254
                  replace q254 := eq_true q254
                  go_wp2
                  go_roundg k3
                  case measure => have := HK1.out; have := HK2.out; have := HK3.out; omega
                  case rel => exact ⟨(wrap64 (x63_3 + 1)), (by first | rfl | (simp; done) | (simp [*]; done)), H', ⟨by have := HK1.out; have := HK2.out; have := HK3.out; omega⟩, ⟨by (with_reducible repeat (first | apply Kd.R_alloc | apply Kd.R_drewN | apply Kd.R_drew)); exact HO_6.out⟩, ⟨by (with_reducible repeat (first | apply Kd.R_alloc | apply Kd.R_drewN | apply Kd.R_drew)); exact HO_7.out⟩, HIs, HB⟩
                ·rw [if_neg c44] at H
                 exact absurd H (by simp)
               ·rw [if_neg c43] at H
                have c43b0 : ((Go.bits .and .i64 x58_2 (rd x6_1 x63_3)) == 0) = false := beq_eq_false_iff_ne.mpr c43
                have c43b1 : ((Go.bits .and .i64 x58_2 (rd x6_1 x63_3)) != 0) = true := bne_iff_ne.mpr c43
                have H' := Aside0.mk H
                clear H
                obtain ⟨Ao50, co50, eo50⟩ := Kd.R_slice HO_6.out
                subst eo50
                have p253 : 0 ≤ (x63_3 : Int) := of_decide_eq_true (by first | (with_reducible assumption) | assumption)
                have q253 : x63_3 < (x6_1.length : Int) := of_decide_eq_true (by first | (with_reducible assumption) | assumption)
                obtain ⟨ad253, e253, hx253_0⟩ := Kd.at_int (Kd.R_reads' HO_6.out).2.2 x63_3 p253 q253
                cases e253
                replace p253 := eq_true p253
                replace q253 := eq_true q253
                go_wp2
                go_roundg k3
                case measure => have := HK1.out; have := HK2.out; have := HK3.out; omega
                case rel => exact ⟨(wrap64 (x63_3 + 1)), (by first | rfl | (simp; done) | (simp [*]; done)), H', ⟨by have := HK1.out; have := HK2.out; have := HK3.out; omega⟩, ⟨by (with_reducible repeat (first | apply Kd.R_alloc | apply Kd.R_drewN | apply Kd.R_drew)); exact HO_6.out⟩, ⟨by (with_reducible repeat (first | apply Kd.R_alloc | apply Kd.R_drewN | apply Kd.R_drew)); exact HO_7.out⟩, HIs, HB⟩
              ·rw [if_neg c42] at H
               exact absurd H (by simp)
             ·rw [if_neg c41] at H
              exact absurd H (by simp)
            ·rw [if_neg c40] at H
             have c40b0 : decide (x63_3 < (l1.length : Int)) = false := decide_eq_false c40
             clear c40
             have hc_ : ∃ b_, (step s1_ x58_2).1 = b_ := ⟨_, rfl⟩
             obtain ⟨b_, hc_⟩ := hc_
             cases b_ with
             | true =>
              rw [if_pos hc_] at H
              have H' := Aside0.mk H
              have HC := Aside0.mk hc_
              clear H hc_
              go_wp2_with (go_at_fn gv; refine (HV.out s1_ x58_2 _ HIs.out).mono ?_; rw [HC.out]; rintro e w' ⟨rfl, hi_, hk_, hb_⟩; have HI1 := Aside0.mk hi_; have HK_ := Aside0.mk hk_; have HB_ := Aside0.mk hb_; clear hi_ hk_ hb_)
              have HO6_ := Aside0.mk (Kd.R_mono (Kd.R_kept (Kd.R_bound HO_6.out) HK_.out (fun k hk hs => by have := HS.out k hs; have := hk.2.1; omega)) (fun _ hk => hk.1))
              have HO7_ := Aside0.mk (Kd.R_mono (Kd.R_kept (Kd.R_bound HO_7.out) HK_.out (fun k hk hs => by have := HS.out k hs; have := hk.2.1; omega)) (fun _ hk => hk.1))
              have HB1 := Aside0.mk (HB.out.trans HB_.out)
              go_roundg k3
              case measure => have := HK1.out; have := HK2.out; have := HK3.out; omega
              case rel => exact ⟨(step s1_ x58_2).2, (wrap64 (x58_2 + 1)), (by first | rfl | (simp; done) | (simp [*]; done)), H', ⟨by have := HK1.out; have := HK2.out; have := HK3.out; omega⟩, HO6_, HO7_, HI1, HB1⟩
             | false =>
              rw [if_neg (by rw [hc_]; decide)] at H
              have HC := Aside0.mk hc_
              obtain rfl := Option.some.inj H
              clear H hc_
              go_wp2_with (go_at_fn gv; refine (HV.out s1_ x58_2 _ HIs.out).mono ?_; rw [HC.out]; rintro e w' ⟨rfl, hi_, hk_, hb_⟩; have HI1 := Aside0.mk hi_; have HK_ := Aside0.mk hk_; have HB_ := Aside0.mk hb_; clear hi_ hk_ hb_)
              (try rw [Exit.noGoto_ret]); first | go_end0 | ((try simp only [Exit.inBlock, Exit.then]); refine bodyPost_ret (results_none rfl _ _ _) rfl ?_)
              exact ⟨rfl, HI1.out, HB.out.trans HB_.out⟩
         ·rw [if_neg c39] at H
          obtain rfl := Option.some.inj H
          have c39b0 : decide (x58_2 < ji38) = false := decide_eq_false c39
          clear c39
          go_wp2
          (try rw [Exit.noGoto_ret]); first | go_end0 | ((try simp only [Exit.inBlock, Exit.then]); refine bodyPost_ret (results_none rfl _ _ _) rfl ?_)
          exact ⟨rfl, HIs.out, HB.out⟩
      ·rw [if_neg c37] at H
       exact absurd H (by simp)
  ·rw [if_neg c5] at H
   exact absurd H (by simp)
 ·rw [if_neg c4] at H
  exact absurd H (by simp)
end

end Go.Proofs.Ytkfmgfdbdgjfiaa.QFnExactCoreOf
