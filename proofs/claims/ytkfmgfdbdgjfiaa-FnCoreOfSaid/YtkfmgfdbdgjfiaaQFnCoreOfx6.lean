-- Written by a program of this session (mk.py). Lean checks it.
import Derived.Test.YtkfmgfdbdgjfiaaQFnCoreOfx0
import Derived.Test.YtkfmgfdbdgjfiaaQFnCoreOfx2
import Derived.Test.YtkfmgfdbdgjfiaaQFnCoreOfx3
import Derived.Test.YtkfmgfdbdgjfiaaQFnCoreOfx5
namespace Go.Proofs.Ytkfmgfdbdgjfiaa.QFnCoreOf
open Go.RowKit Go.Proofs.YtkfmgfdbdgjfiaaW.PrintWords Go.Proofs.YtkfmgfdbdgjfiaaW.PrintLast Go.Proofs.YtkfmgfdbdgjfiaaW.PrintMore
attribute [local go_sem] max2_int min2_int max_two min_two max_three min_three max_four min_four   -- for this text's walks alone
set_option linter.unusedVariables false
set_option linter.unusedSimpArgs false

/-! ### spec_l12Without: function 83 -/
def spec_l12Without.l0 : Nat → List (List Int) → Int → List (List Int) → Int → Option ((List (List Int)))
 | 0, _, _, _, _ => none
 | k + 1, x0, x1, x5, x6 => if x6 < (x0.length : Int) then (if x6 = x1 then (spec_l12Without.l0 k x0 x1 x5 (wrap64 (x6 + 1))) else (if 0 ≤ x6 then (if x5.length < 5864062014805 then (spec_l12Without.l0 k x0 x1 (x5 ++ [rd_L1 x0 x6]) (wrap64 (x6 + 1))) else (none)) else (none))) else (some x5)
def spec_l12Without.f (k : Nat) (l0 : List (List Int)) (a1 : Int) : Option ((List (List Int))) := spec_l12Without.l0 k l0 a1 (([] : List (List Int))) 0
theorem spec_l12Without.mono_l : ∀ k, (∀ y0 y1 y2 y3, LeO (spec_l12Without.l0 k y0 y1 y2 y3) (spec_l12Without.l0 (k + 1) y0 y1 y2 y3))
 | 0 => fun _ _ _ _ r h => by simp [spec_l12Without.l0] at h
 | k + 1 => by
  have ih0 := spec_l12Without.mono_l k
  ·intro y0 y1 y2 y3
   unfold spec_l12Without.l0
   repeat' first
   | (with_reducible exact ih0 _ _ _ _)
   | (with_reducible exact LeO.refl _)
   | (with_reducible exact LeO.none _)
   | (with_reducible refine LeO.ite ?_ ?_)
   | (with_reducible refine LeO.bind ?_ (fun _ => ?_))
   | exact ih0 _ _ _ _
   | exact LeO.none _
   | refine LeO.ite ?_ ?_
   | refine LeO.bind ?_ (fun _ => ?_)
theorem spec_l12Without.mono : ∀ a0 a1 k, LeO (spec_l12Without.f k a0 a1) (spec_l12Without.f (k + 1) a0 a1) := by
 intro a0 a1 k
 have ih0 := spec_l12Without.mono_l k
 unfold spec_l12Without.f
 repeat' first
   | (with_reducible exact ih0 _ _ _ _)
   | (with_reducible exact LeO.refl _)
   | (with_reducible exact LeO.none _)
   | (with_reducible refine LeO.ite ?_ ?_)
   | (with_reducible refine LeO.bind ?_ (fun _ => ?_))
   | exact ih0 _ _ _ _
   | exact LeO.none _
   | refine LeO.ite ?_ ?_
   | refine LeO.bind ?_ (fun _ => ?_)
set_option maxHeartbeats 8000000 in
set_option maxRecDepth 100000 in
theorem spec_l12Without.calls (k : Nat) (P0_ : Nat → Prop) (A0 : Option Addr) (c0 : Nat) (l0 : List (List Int)) (a1 : Int) (r : List (List Int)) (w : World) (hs0 : Kd.V (Kd.slice 3 (Kd.int .i64)) 25 w w.heap.size (fun k_ => P0_ k_) (.slice A0 l0.length c0) l0) (h : spec_l12Without.f k l0 a1 = some r) :
  Calls Try.prog 83 #[.slice A0 l0.length c0, .int .i64 a1] w fun e w' => ∃ v0_ : Value, e = .returned (v0_) ∧ Kd.N (Kd.slice 3 (Kd.int .i64)) 25 w' w.heap.size (fun k_ => (P0_ k_ ∨ w.heap.size ≤ k_)) v0_ r ∧ Below w.heap.size w w' := by
 have HO0 := Aside0.mk (show Kd.V (Kd.slice 3 (Kd.int .i64)) 25 w w.heap.size (fun k_ => (P0_ k_ ∨ w.heap.size ≤ k_)) (.slice A0 l0.length c0) l0 from Kd.V_mono hs0 (fun k_ hk => .inl hk))
 have HB := Aside0.mk (Below.refl w.heap.size w)
 have H : (spec_l12Without.l0 k l0 a1 (([] : List (List Int))) 0) = some r := h
 clear h
 obtain ⟨y188, hy188⟩ : ∃ y_ : List (List Int), y_ = (([] : List (List Int))) := ⟨_, rfl⟩
 replace H : (spec_l12Without.l0 k l0 a1 y188 0) = some r := by first | (rw [hy188]; with_reducible exact H) | (have H2_ := (Option.bind_some _ _).symm.trans H; rw [hy188]; with_reducible exact H2_) | (have H2_ := (Option.bind_some _ _).symm.trans H; with_reducible exact H2_) | with_reducible exact H | (rw [hy188]; exact H) | exact H
 have Ny188 := Aside0.mk hy188
 clear hy188
 have H' := Aside0.mk H
 clear H
 go_enter Try.func83, Try.ntmps83
 go_wp2_with (first | ((with_reducible refine gate_dst (N := 7) rfl ?_); refine Kd.N_lit (Kd.slice 3 (Kd.int .i64)) _ 25 ?hg (N' := 7) ?hd (xs := ([] : List (List Int))) (inner := []) (ok := (fun k_ => (P0_ k_ ∨ w.heap.size ≤ k_))) (okp := (fun k_ => (P0_ k_ ∨ w.heap.size ≤ k_))) ?hr ?hp (fun _ hk => hk) ((show ∀ k_, w.heap.size ≤ k_ → (fun k_ => (P0_ k_ ∨ w.heap.size ≤ k_)) k_ from fun k_ hk => (.inr (Nat.le_trans (below_size (by repeat (first | (with_reducible first | exact HB.out | apply bwA | apply bwN | apply bwD) | exact HB.out))) hk))) _ (Nat.le_refl _)) (Below.refl _ _) (Nat.le_refl _) (by simp) ?_; (case hd => rfl); (case hg => rfl); (case hr => first | (go_simp; done) | (go_simp; rfl)); (case hp => exact (Reps.none _ _)); intro v189 w3 ho4 hb hg_ hnew_; clear hg_ hnew_; (first | rw [← Ny188.out] at ho4 | (simp only [Int.reduceToNat] at ho4; rw [← Ny188.out] at ho4)); have n0_ := Aside0.mk (Kd.V_elder' (by (with_reducible repeat (first | apply Kd.V_alloc | apply Kd.V_drewN | apply Kd.V_drew)); exact HO0.out) (Kd.N_base ho4) hb); have n1_ := Aside0.mk (Kd.N_lower ho4 (below_size (by repeat (first | (with_reducible first | exact HB.out | apply bwA | apply bwN | apply bwD) | exact HB.out)))); have n2_ := Aside0.mk (below_step (by repeat (first | (with_reducible first | exact HB.out | apply bwA | apply bwN | apply bwD) | exact HB.out)) hb); clear HO0; clear HB; have HO0 := n0_; have HO190 := n1_; have HB := n2_; clear n0_ n1_ n2_; clear hb ho4))
 go_loopg [5, 6] k (fun kq v5 v6 w' => ∃ (x5_1 : List (List Int)) (x6_1 : Int), v6 = .int .i64 x6_1 ∧ Aside0 (spec_l12Without.l0 kq l0 a1 x5_1 x6_1 = some r) ∧ Aside0 (kq ≤ k) ∧ Aside0 (Kd.V (Kd.slice 3 (Kd.int .i64)) 25 w' w.heap.size (fun k_ => (P0_ k_ ∨ w.heap.size ≤ k_) ∧ some k_ ≠ (v5 : Value).ownBlock) (.slice A0 l0.length c0) l0) ∧ Aside0 (Kd.N (Kd.slice 3 (Kd.int .i64)) 25 w' w.heap.size (fun k_ => (P0_ k_ ∨ w.heap.size ≤ k_)) v5 x5_1) ∧ Aside0 (Below w.heap.size w w'))
 case atStart => exact ⟨(y188), (0), rsd, H', ⟨Nat.le_refl _⟩, ⟨by (with_reducible repeat (first | apply Kd.V_alloc | apply Kd.V_drewN | apply Kd.V_drew)); exact HO0.out⟩, ⟨by (with_reducible repeat (first | apply Kd.N_alloc | apply Kd.N_drewN | apply Kd.N_drew)); exact HO190.out⟩, ⟨by repeat (first | (with_reducible first | exact HB.out | apply bwA | apply bwN | apply bwD) | exact HB.out)⟩⟩
 case round =>
  clear H'
  try clear p2
  obtain ⟨x5_1, x6_1, rfl, HA, HK1, HO_0, HO_5, HB⟩ := hrel
  cases gk with
  | zero => exact absurd HA.out (by simp [spec_l12Without.l0])
  | succ k1 =>
   have H := HA.out
   clear HA
   simp only [spec_l12Without.l0] at H
   by_cases c5 : x6_1 < (l0.length : Int)
   ·rw [if_pos c5] at H
    have c5b0 : decide (x6_1 < (l0.length : Int)) = true := decide_eq_true c5
    clear c5
    by_cases c6 : x6_1 = a1
    ·rw [if_pos c6] at H
     have c6b0 : (x6_1 == a1) = true := beq_iff_eq.mpr c6
     have c6b1 : (x6_1 != a1) = false := bne_eq_false_iff_eq.mpr c6
     clear c6
     have H' := Aside0.mk H
     clear H
     go_wp2
     go_roundg k1
     case measure => have := HK1.out; omega
     case rel => exact ⟨(x5_1), (wrap64 (x6_1 + 1)), rsd, H', ⟨by have := HK1.out; omega⟩, ⟨by (with_reducible repeat (first | apply Kd.V_alloc | apply Kd.V_drewN | apply Kd.V_drew)); exact HO_0.out⟩, ⟨by (with_reducible repeat (first | apply Kd.N_alloc | apply Kd.N_drewN | apply Kd.N_drew)); exact HO_5.out⟩, ⟨by repeat (first | (with_reducible first | exact HB.out | apply bwA | apply bwN | apply bwD) | exact HB.out)⟩⟩
    ·rw [if_neg c6] at H
     have c6b0 : (x6_1 == a1) = false := beq_eq_false_iff_ne.mpr c6
     have c6b1 : (x6_1 != a1) = true := bne_iff_ne.mpr c6
     by_cases c7 : 0 ≤ x6_1
     ·rw [if_pos c7] at H
      have c7b0 : decide (0 ≤ x6_1) = true := decide_eq_true c7
      clear c7
      by_cases c8 : x5_1.length < 5864062014805
      ·rw [if_pos c8] at H
       have LMc8 := Aside0.mk c8
       clear c8
       obtain ⟨y192, hy192⟩ : ∃ y_ : List (List Int), y_ = (x5_1 ++ [rd_L1 l0 x6_1]) := ⟨_, rfl⟩
       replace H : (spec_l12Without.l0 k1 l0 a1 y192 (wrap64 (x6_1 + 1))) = some r := by first | (rw [hy192]; with_reducible exact H) | (have H2_ := (Option.bind_some _ _).symm.trans H; rw [hy192]; with_reducible exact H2_) | (have H2_ := (Option.bind_some _ _).symm.trans H; with_reducible exact H2_) | with_reducible exact H | (rw [hy192]; exact H) | exact H
       have Ny192 := Aside0.mk hy192
       clear hy192
       have H' := Aside0.mk H
       clear H
       have p191 : 0 ≤ (x6_1 : Int) := oda
       have q191 : x6_1 < (l0.length : Int) := oda
       obtain ⟨ad191, A191_0, c191_0, e191, hx191_0, hl191_0, hi191_0⟩ := at_L1 (Kd.V_reads' HO_0.out).2.2 x6_1 p191 q191
       cases e191
       obtain ⟨ce191, hce191, hMe191, hcc191⟩ := Kd.V_get HO_0.out [] x6_1 p191 (by first | exact q191 | exact oda | (have e_ := (Kd.V_reads' HO_0.out).1; omega))
       obtain ⟨ua191_0, uc191_0, rfl, ul191_0, ge191_0⟩ := Kd.FK_slice_open hMe191
       have hv191_0 := hcc191 0 _ rfl
       rw [Nat.add_zero, show ((Kd.slice 3 (Kd.int .i64))).sz = 1 from rfl, Nat.mul_one] at hv191_0
       replace hv191_0 := Option.some.inj (hv191_0.symm.trans hx191_0)
       injection hv191_0 with hva_ hvn_ hvc_
       rw [hva_] at ge191_0
       rw [hvc_] at ul191_0
       have HL191_0 := Aside0.mk (show Kd.V (Kd.int .i64) 3 _ w.heap.size _ _ (rd_L1 l0 x6_1) from Kd.V_mk ul191_0 ge191_0)
       clear hva_ hvn_ hvc_ ge191_0 ul191_0
       clear hcc191 hce191
       have HR191_0 := Aside0.mk hi191_0
       have HC191_0 := Aside0.mk hl191_0
       clear hi191_0 hl191_0
       replace p191 := eq_true p191
       replace q191 := eq_true q191
       go_wp2_with (first | ((with_reducible refine gate_builtin (b := .append) (xs := #[.tmp 17, .tmp 22]) rfl ?_); at_builtin; refine Kd.N_append (Kd.slice 3 (Kd.int .i64)) (w0 := w) w.heap.size rfl (.tmp 17) (.tmp 22) 22 25 (.slice none 0 0) 24 rfl Try.underlying22 info25 rfl (by decide) (by omega) u5 x5_1 (rd_L1 l0 x6_1) [.slice A191_0 (rd_L1 l0 x6_1).length c191_0] (fun k_ => (P0_ k_ ∨ w.heap.size ≤ k_)) (fun k_ => ((fun k_ => (P0_ k_ ∨ w.heap.size ≤ k_))) k_ ∧ some k_ ≠ (u5 : Value).ownBlock) rfl rfl ?aP (fun _ hk => hk) ?aF ?aO ?aB ?aS ?aL ?_; (case aP => exact (Kd.FK_slice_mk (Kd.V_reads' (Kd.V_mono (ok' := (fun k_ => ((fun k_ => (P0_ k_ ∨ w.heap.size ≤ k_))) k_ ∧ some k_ ≠ (u5 : Value).ownBlock)) (HL191_0.out) (fun k_ hk => ⟨hk.1, hk.2⟩))).2.1 (Kd.V_F (Kd.V_mono (ok' := (fun k_ => ((fun k_ => (P0_ k_ ∨ w.heap.size ≤ k_))) k_ ∧ some k_ ≠ (u5 : Value).ownBlock)) (HL191_0.out) (fun k_ hk => ⟨hk.1, hk.2⟩))))); (case aB => exact (by repeat (first | (with_reducible first | exact HB.out | apply bwA | apply bwN | apply bwD) | exact HB.out))); (case aF => exact (fun k_ hk => (.inr (Nat.le_trans (below_size (by repeat (first | (with_reducible first | exact HB.out | apply bwA | apply bwN | apply bwD) | exact HB.out))) hk)))); (case aO => exact (by (with_reducible repeat (first | apply Kd.N_alloc | apply Kd.N_drewN | apply Kd.N_drew)); exact HO_5.out)); (case aS => exact (below_size (by repeat (first | (with_reducible first | exact HB.out | apply bwA | apply bwN | apply bwD) | exact HB.out)))); (case aL => have := LMc8.out; omega); intro v193 w9 ho hb hg hat; rw [← Ny192.out] at ho; have n0_ := Aside0.mk (Kd.V_afterv (ok := (fun k_ => (P0_ k_ ∨ w.heap.size ≤ k_))) (by (with_reducible repeat (first | apply Kd.V_alloc | apply Kd.V_drewN | apply Kd.V_drew)); exact HO_0.out) hg hat); have n1_ := Aside0.mk (Kd.V_afterv (ok := (fun k_ => (P0_ k_ ∨ w.heap.size ≤ k_))) (by (with_reducible repeat (first | apply Kd.V_alloc | apply Kd.V_drewN | apply Kd.V_drew)); exact HL191_0.out) hg hat); have n2_ := Aside0.mk (hb); have n3_ := Aside0.mk (ho); clear HO_0; clear HL191_0; clear HB; clear HO_5; have HO_0 := n0_; have HL191_0 := n1_; have HB := n2_; have HO194 := n3_; clear n0_ n1_ n2_ n3_; clear ho hb hg hat))
       go_roundg k1
       case measure => have := HK1.out; omega
       case rel => exact ⟨(y192), (wrap64 (x6_1 + 1)), rsd, H', ⟨by have := HK1.out; omega⟩, ⟨by (with_reducible repeat (first | apply Kd.V_alloc | apply Kd.V_drewN | apply Kd.V_drew)); exact HO_0.out⟩, ⟨by (with_reducible repeat (first | apply Kd.N_alloc | apply Kd.N_drewN | apply Kd.N_drew)); exact HO194.out⟩, ⟨by repeat (first | (with_reducible first | exact HB.out | apply bwA | apply bwN | apply bwD) | exact HB.out)⟩⟩
      ·rw [if_neg c8] at H
       exact absurd H (by simp)
     ·rw [if_neg c7] at H
      exact absurd H (by simp)
   ·rw [if_neg c5] at H
    have c5b0 : decide (x6_1 < (l0.length : Int)) = false := decide_eq_false c5
    clear c5
    obtain rfl := Option.some.inj H
    (try rw [hl191_0] at c5b0)
    go_wp2
    go_ret
    exact ⟨_, ers, by (with_reducible repeat (first | apply Kd.N_alloc | apply Kd.N_drewN | apply Kd.N_drew)); exact HO_5.out, by repeat (first | (with_reducible first | exact HB.out | apply bwA | apply bwN | apply bwD) | exact HB.out)⟩

/-! ### spec_CoreOf: function 41 -/
mutual
def spec_CoreOf.j0 : Nat → List Int → Bool → Int → List (List Int) → Option (List Int)
 | 0, _, _, _, _ => none
 | k + 1, x3, x15, x196000, x196001 => if x15 = true then (some x3) else (spec_CoreOf.l0 k x3 x196001 0 0 x196000 x196001)
def spec_CoreOf.l0 : Nat → List Int → List (List Int) → Int → Int → Int → List (List Int) → Option (List Int)
 | 0, _, _, _, _, _, _ => none
 | k + 1, x3, x4, x5, x6, x196000, x196001 => if x6 < (x196001.length : Int) then ((spec_l12Without.f k x4 x5).bind fun t201 => (if 0 ≤ (wrap64 (x196000 + 1)) then (if (wrap64 (x196000 + 1) : Int).toNat ≤ 35184372088832 then ((spec_l12Open.f k t201 (List.replicate (wrap64 (x196000 + 1) : Int).toNat 0)).bind fun t207 => (if t207 = true then (if x3.length < 17592186044416 then (spec_CoreOf.l0 k (x3 ++ [x6]) x4 (wrap64 (x5 + 1)) (wrap64 (x6 + 1)) x196000 x196001) else (none)) else (spec_CoreOf.l0 k x3 t201 x5 (wrap64 (x6 + 1)) x196000 x196001))) else (none)) else (none))) else (some x3)
end
def spec_CoreOf.f (k : Nat) (a0_0 : Int) (l0_1 : List (List Int)) : Option (List Int) := (some (([] : List Int) : List Int)).bind fun y196 => ((spec_l12Few.f k a0_0 l0_1).bind fun t199 => (if t199 = true then ((spec_l12Can.f k a0_0 l0_1 ([] : List Int)).bind fun t200 => (spec_CoreOf.j0 k y196 t200 a0_0 l0_1)) else (spec_CoreOf.j0 k y196 true a0_0 l0_1)))
theorem spec_CoreOf.mono_l : ∀ k, (∀ y0 y1 y2 y3, LeO (spec_CoreOf.j0 k y0 y1 y2 y3) (spec_CoreOf.j0 (k + 1) y0 y1 y2 y3)) ∧ (∀ y0 y1 y2 y3 y4 y5, LeO (spec_CoreOf.l0 k y0 y1 y2 y3 y4 y5) (spec_CoreOf.l0 (k + 1) y0 y1 y2 y3 y4 y5))
 | 0 => ⟨fun _ _ _ _ r h => by simp [spec_CoreOf.j0] at h, fun _ _ _ _ _ _ r h => by simp [spec_CoreOf.l0] at h⟩
 | k + 1 => by
  obtain ⟨ih0, ih1⟩ := spec_CoreOf.mono_l k
  refine ⟨?_, ?_⟩
  ·intro y0 y1 y2 y3
   unfold spec_CoreOf.j0
   repeat' first
   | (with_reducible exact ih0 _ _ _ _)
   | (with_reducible exact ih1 _ _ _ _ _ _)
   | (with_reducible exact spec_l12Can.mono _ _ _ _)
   | (with_reducible exact spec_l12Few.mono _ _ _)
   | (with_reducible exact spec_l12Open.mono _ _ _)
   | (with_reducible exact spec_l12Without.mono _ _ _)
   | (with_reducible exact LeO.refl _)
   | (with_reducible exact LeO.none _)
   | (with_reducible refine LeO.ite ?_ ?_)
   | (with_reducible refine LeO.bind ?_ (fun _ => ?_))
   | exact ih0 _ _ _ _
   | exact ih1 _ _ _ _ _ _
   | exact spec_l12Can.mono _ _ _ _
   | exact spec_l12Few.mono _ _ _
   | exact spec_l12Open.mono _ _ _
   | exact spec_l12Without.mono _ _ _
   | exact LeO.none _
   | refine LeO.ite ?_ ?_
   | refine LeO.bind ?_ (fun _ => ?_)
  ·intro y0 y1 y2 y3 y4 y5
   unfold spec_CoreOf.l0
   repeat' first
   | (with_reducible exact ih0 _ _ _ _)
   | (with_reducible exact ih1 _ _ _ _ _ _)
   | (with_reducible exact spec_l12Can.mono _ _ _ _)
   | (with_reducible exact spec_l12Few.mono _ _ _)
   | (with_reducible exact spec_l12Open.mono _ _ _)
   | (with_reducible exact spec_l12Without.mono _ _ _)
   | (with_reducible exact LeO.refl _)
   | (with_reducible exact LeO.none _)
   | (with_reducible refine LeO.ite ?_ ?_)
   | (with_reducible refine LeO.bind ?_ (fun _ => ?_))
   | exact ih0 _ _ _ _
   | exact ih1 _ _ _ _ _ _
   | exact spec_l12Can.mono _ _ _ _
   | exact spec_l12Few.mono _ _ _
   | exact spec_l12Open.mono _ _ _
   | exact spec_l12Without.mono _ _ _
   | exact LeO.none _
   | refine LeO.ite ?_ ?_
   | refine LeO.bind ?_ (fun _ => ?_)
theorem spec_CoreOf.mono : ∀ a0 a1 k, LeO (spec_CoreOf.f k a0 a1) (spec_CoreOf.f (k + 1) a0 a1) := by
 intro a0 a1 k
 obtain ⟨ih0, ih1⟩ := spec_CoreOf.mono_l k
 unfold spec_CoreOf.f
 repeat' first
   | (with_reducible exact ih0 _ _ _ _)
   | (with_reducible exact ih1 _ _ _ _ _ _)
   | (with_reducible exact spec_l12Can.mono _ _ _ _)
   | (with_reducible exact spec_l12Few.mono _ _ _)
   | (with_reducible exact spec_l12Open.mono _ _ _)
   | (with_reducible exact spec_l12Without.mono _ _ _)
   | (with_reducible exact LeO.refl _)
   | (with_reducible exact LeO.none _)
   | (with_reducible refine LeO.ite ?_ ?_)
   | (with_reducible refine LeO.bind ?_ (fun _ => ?_))
   | exact ih0 _ _ _ _
   | exact ih1 _ _ _ _ _ _
   | exact spec_l12Can.mono _ _ _ _
   | exact spec_l12Few.mono _ _ _
   | exact spec_l12Open.mono _ _ _
   | exact spec_l12Without.mono _ _ _
   | exact LeO.none _
   | refine LeO.ite ?_ ?_
   | refine LeO.bind ?_ (fun _ => ?_)
set_option maxHeartbeats 8000000 in
set_option maxRecDepth 100000 in
theorem spec_CoreOf.calls (k : Nat) (a0_0 : Int) (P0_1_ : Nat → Prop) (A0_1 : Option Addr) (c0_1 : Nat) (l0_1 : List (List Int)) (r : List Int) (w : World) (hs0_1 : Kd.V (Kd.slice 3 (Kd.int .i64)) 25 w w.heap.size (fun k_ => P0_1_ k_) (.slice A0_1 l0_1.length c0_1) l0_1) (h : spec_CoreOf.f k a0_0 l0_1 = some r) :
  Calls Try.prog 41 #[.agg #[.int .i64 a0_0, .slice A0_1 l0_1.length c0_1]] w fun e w' => ∃ v0_ : Value, e = .returned (v0_) ∧ Kd.R (Kd.int .i64) 3 w' w.heap.size (fun k_ => (w.heap.size ≤ k_)) v0_ r ∧ Below w.heap.size w w' := by
 have hu29 := Try.underlying29
 have HO0_1 := Aside0.mk (show Kd.V (Kd.slice 3 (Kd.int .i64)) 25 w w.heap.size (fun k_ => (P0_1_ k_ ∨ w.heap.size ≤ k_)) (.slice A0_1 l0_1.length c0_1) l0_1 from Kd.V_mono hs0_1 (fun k_ hk => .inl hk))
 have HB := Aside0.mk (Below.refl w.heap.size w)
 have H : ((some (([] : List Int) : List Int)).bind fun y196 => ((spec_l12Few.f k a0_0 l0_1).bind fun t199 => (if t199 = true then ((spec_l12Can.f k a0_0 l0_1 ([] : List Int)).bind fun t200 => (spec_CoreOf.j0 k y196 t200 a0_0 l0_1)) else (spec_CoreOf.j0 k y196 true a0_0 l0_1)))) = some r := h
 clear h
 obtain ⟨y196, hy196⟩ : ∃ y_ : List Int, y_ = (([] : List Int)) := ⟨_, rfl⟩
 replace H : ((spec_l12Few.f k a0_0 l0_1).bind fun t199 => (if t199 = true then ((spec_l12Can.f k a0_0 l0_1 ([] : List Int)).bind fun t200 => (spec_CoreOf.j0 k y196 t200 a0_0 l0_1)) else (spec_CoreOf.j0 k y196 true a0_0 l0_1))) = some r := by first | (rw [hy196]; with_reducible exact H) | (have H2_ := (Option.bind_some _ _).symm.trans H; rw [hy196]; with_reducible exact H2_) | (have H2_ := (Option.bind_some _ _).symm.trans H; with_reducible exact H2_) | with_reducible exact H | (rw [hy196]; exact H) | exact H
 have Ny196 := Aside0.mk hy196
 clear hy196
 have HC2 := Aside0.mk H
 clear H
 go_enter Try.func41, Try.ntmps41
 go_upto_region 2 with (first | ((with_reducible refine gate_dst (N := 1) rfl ?_); refine box_event ?hg (N := 1) ?hd (cs := #[.int .i64 a0_0, .slice A0_1 l0_1.length c0_1]) (t := 29) ?hr ?_; (case hd => rfl); (case hg => rfl); (case hr => first | (go_simp; done) | (go_simp; rfl)); intro gb195 hg w3 hbox hb; have n0_ := Aside0.mk (Kd.V_below (Kd.V_elderB (by (with_reducible repeat (first | apply Kd.V_alloc | apply Kd.V_drewN | apply Kd.V_drew)); exact HO0_1.out) gb195 (Nat.le_of_eq hg.symm)) hb); have n1_ := Aside0.mk (below_step (by repeat (first | (with_reducible first | exact HB.out | apply bwA | apply bwN | apply bwD) | exact HB.out)) hb); have n2_ := Aside0.mk (hbox); have n3_ := Aside0.mk ((by rw [hg]; exact (below_size (by repeat (first | (with_reducible first | exact HB.out | apply bwA | apply bwN | apply bwD) | exact HB.out))) : w.heap.size ≤ gb195)); have n4_ := Aside0.mk ((by rw [hg]; exact (below_size (by repeat (first | (with_reducible first | exact HB.out | apply bwA | apply bwN | apply bwD) | exact HB.out))) : w.heap.size ≤ gb195)); clear HO0_1; clear HB; have HO0_1 := n0_; have HB := n1_; have BK195 := n2_; have GW195 := n3_; have GE195 := n4_; clear n0_ n1_ n2_ n3_ n4_; clear hb hbox hg) | ((with_reducible refine gate_dst (N := 8) rfl ?_); refine Kd.R_lit (Kd.int .i64) _ 3 ?hg (N := 8) ?hd (xs := ([] : List Int)) (inner := []) (ok := fun _ => True) (okp := fun _ => True) ?hr ?hp (fun _ hk => hk) trivial (Below.refl _ _) (Nat.le_refl _) (by simp) ?_; (case hd => rfl); (case hg => rfl); (case hr => first | (go_simp; done) | (go_simp; rfl)); (case hp => exact (Reps.none _ _)); intro v197 w4 ho5 hb hg_ hnew_; clear hg_ hnew_; (first | rw [← Ny196.out] at ho5 | (simp only [Int.reduceToNat] at ho5; rw [← Ny196.out] at ho5)); have n0_ := Aside0.mk (Kd.V_elder' (by (with_reducible repeat (first | apply Kd.V_alloc | apply Kd.V_drewN | apply Kd.V_drew)); exact HO0_1.out) (Kd.R_base ho5) hb); have n1_ := Aside0.mk (Kd.R_lower (Kd.R_newM (M := fun k_ => (w.heap.size ≤ k_)) ho5 (below_size (by repeat (first | (with_reducible first | exact HB.out | apply bwA | apply bwN | apply bwD | refine below_set ?_ GE195.out) | exact HB.out))) (fun k_ h_ => h_)) (below_size (by repeat (first | (with_reducible first | exact HB.out | apply bwA | apply bwN | apply bwD | refine below_set ?_ GE195.out) | exact HB.out)))); have n2_ := Aside0.mk (blk_below (g := gb195) (o := .cells #[.int .i64 a0_0, .slice A0_1 l0_1.length c0_1] 29 (0, 0)) (bvK BK195.out) hb); have n3_ := Aside0.mk (below_step (by repeat (first | (with_reducible first | exact HB.out | apply bwA | apply bwN | apply bwD | refine below_set ?_ GE195.out) | exact HB.out)) hb); clear HO0_1; clear BK195; clear HB; have HO0_1 := n0_; have HO198 := n1_; have BK195 := n2_; have HB := n3_; clear n0_ n1_ n2_ n3_; clear hb ho5))
 (try simp only [Act.put, List.setIfInBounds_toArray, List.set_cons_zero, List.set_cons_succ])
 go_cut [15] (fun v15 wc => ∃ (kq : Nat) (x15_1 : Bool), v15 = .bool x15_1 ∧ Aside0 (spec_CoreOf.j0 kq y196 x15_1 a0_0 l0_1 = some r) ∧ Aside0 (kq ≤ k) ∧ Aside0 (Kd.R (Kd.int .i64) 3 wc w.heap.size (fun k_ => (w.heap.size ≤ k_)) v197 y196) ∧ Aside0 (Kd.V (Kd.slice 3 (Kd.int .i64)) 25 wc w.heap.size (fun k_ => (P0_1_ k_ ∨ w.heap.size ≤ k_) ∧ some k_ ≠ (v197 : Value).ownBlock ∧ k_ ≠ gb195) (.slice A0_1 l0_1.length c0_1) l0_1) ∧ Aside0 (wc.heap[gb195]? = some (.cells #[.int .i64 a0_0, (.slice A0_1 l0_1.length c0_1)] 29 (0, 0))) ∧ Aside0 (Below w.heap.size w wc))
 case first =>
  have H := HC2.out
  clear HC2
  replace H := Option.bind_eq_some_iff.mp H
  obtain ⟨t199, A60, H⟩ := H
  replace H : (if t199 = true then ((spec_l12Can.f k a0_0 l0_1 ([] : List Int)).bind fun t200 => (spec_CoreOf.j0 k y196 t200 a0_0 l0_1)) else (spec_CoreOf.j0 k y196 true a0_0 l0_1)) = some r := H
  have A6 := Aside0.mk A60
  clear A60
  by_cases c7 : t199 = true
  ·subst c7
   have H1 : ((spec_l12Can.f k a0_0 l0_1 ([] : List Int)).bind fun t200 => (spec_CoreOf.j0 k y196 t200 a0_0 l0_1)) = some r := by rw [if_pos rfl] at H; exact H
   clear H
   have H := H1
   clear H1
   replace H := Option.bind_eq_some_iff.mp H
   obtain ⟨t200, A80, H⟩ := H
   replace H : (spec_CoreOf.j0 k y196 t200 a0_0 l0_1) = some r := H
   have A8 := Aside0.mk A80
   clear A80
   have H' := Aside0.mk H
   clear H
   have hcz9_0 : w4.cell? ⟨gb195, 0, none⟩ = some (.int .i64 a0_0) := (blk_cell BK195.out 0).trans rfl
   have hcz9_1 : w4.cell? ⟨gb195, 1, none⟩ = some (.slice A0_1 l0_1.length c0_1) := (blk_cell BK195.out 1).trans rfl
   have hfz9_0 := blk_frozen BK195.out 0
   have hfz9_1 := blk_frozen BK195.out 1
   go_wp2_with (first | ((with_reducible refine gate_callee (f := 68) rfl ?_); refine goesL_ (some 10) rfl rfl Try.func68 (by kernel_rfl) rfl #[.agg #[.int .i64 a0_0, .slice A0_1 l0_1.length c0_1]] rfl lmB ?_; (with_reducible refine (spec_l12Few.calls k a0_0 _ _ l0_1 true _ ?side1 ?side2 A6.out).mono ?_); (case side1 => repeat (first | exact (Kd.V_reads' HO0_1.out).2.2 | (with_reducible refine Kd.C_alloc ?_ _) | (with_reducible refine Kd.C_drewN ?_ _) | (with_reducible refine Kd.C_drew ?_))); (case side2 => exact (Kd.V_reads' HO0_1.out).2.1); rintro e w10 ⟨rfl, hb⟩; refine ⟨_, rfl, ?_⟩; have n0_ := Aside0.mk (Kd.V_below (by (with_reducible repeat (first | apply Kd.V_alloc | apply Kd.V_drewN | apply Kd.V_drew)); exact HO0_1.out) hb); have n1_ := Aside0.mk (Kd.R_below (rvR HO198.out) hb); have n2_ := Aside0.mk (blk_below (g := gb195) (o := .cells #[.int .i64 a0_0, .slice A0_1 l0_1.length c0_1] 29 (0, 0)) (bvK BK195.out) hb); have n3_ := Aside0.mk (below_step (by repeat (first | (with_reducible first | exact HB.out | apply bwA | apply bwN | apply bwD | refine below_set ?_ GE195.out) | exact HB.out)) hb); clear HO0_1; clear HO198; clear BK195; clear HB; have HO0_1 := n0_; have HO198 := n1_; have BK195 := n2_; have HB := n3_; clear n0_ n1_ n2_ n3_; (try clear hb); (try clear hb2); (try clear hk); (try clear hi); have hcz11_0 : w10.cell? ⟨gb195, 0, none⟩ = some (.int .i64 a0_0) := (blk_cell BK195.out 0).trans rfl; have hcz11_1 : w10.cell? ⟨gb195, 1, none⟩ = some (.slice A0_1 l0_1.length c0_1) := (blk_cell BK195.out 1).trans rfl; have hfz11_0 := blk_frozen BK195.out 0; have hfz11_1 := blk_frozen BK195.out 1) | (go_at_call 69; (refine (spec_l12Can.calls k a0_0 _ _ l0_1 _ _ ([] : List Int) t200 _ ?side1 ?side2 ?side3 ?side4 A8.out).mono ?_); (case side1 => repeat (first | exact (Kd.V_reads' HO0_1.out).2.2 | (with_reducible refine Kd.C_alloc ?_ _) | (with_reducible refine Kd.C_drewN ?_ _) | (with_reducible refine Kd.C_drew ?_))); (case side2 => exact (Kd.V_reads' HO0_1.out).2.1); (case side3 => exact Kd.C_nil _ _); (case side4 => exact Nat.le_refl _); rintro e w12 ⟨rfl, hb⟩; have n0_ := Aside0.mk (Kd.V_below (by (with_reducible repeat (first | apply Kd.V_alloc | apply Kd.V_drewN | apply Kd.V_drew)); exact HO0_1.out) hb); have n1_ := Aside0.mk (Kd.R_below (rvR HO198.out) hb); have n2_ := Aside0.mk (blk_below (g := gb195) (o := .cells #[.int .i64 a0_0, .slice A0_1 l0_1.length c0_1] 29 (0, 0)) (bvK BK195.out) hb); have n3_ := Aside0.mk (below_step (by repeat (first | (with_reducible first | exact HB.out | apply bwA | apply bwN | apply bwD | refine below_set ?_ GE195.out) | exact HB.out)) hb); clear HO0_1; clear HO198; clear BK195; clear HB; have HO0_1 := n0_; have HO198 := n1_; have BK195 := n2_; have HB := n3_; clear n0_ n1_ n2_ n3_; (try clear hb); (try clear hb2); (try clear hk); (try clear hi)))
   go_meet
   case rel => exact ⟨_, (t200), rsd, H', ⟨by first | omega | exact Nat.le_refl _⟩, ⟨by (with_reducible repeat (first | apply Kd.R_alloc | apply Kd.R_drewN | apply Kd.R_drew)); exact Kd.R_mono HO198.out (fun _ hk => hk.1)⟩, ⟨by (with_reducible repeat (first | apply Kd.V_alloc | apply Kd.V_drewN | apply Kd.V_drew)); exact Kd.V_mono HO0_1.out (fun _ hk => ⟨hk.1.1, ⟨hk.2, hk.1.2⟩⟩)⟩, ⟨bvK BK195.out⟩, ⟨by repeat (first | (with_reducible first | exact HB.out | apply bwA | apply bwN | apply bwD | refine below_set ?_ GE195.out) | exact HB.out)⟩⟩
  ·replace c7 := Bool.eq_false_iff.mpr c7
   subst c7
   have H1 : (spec_CoreOf.j0 k y196 true a0_0 l0_1) = some r := by rw [if_neg (show ¬ (false = true) by decide)] at H; exact H
   clear H
   have H := H1
   clear H1
   have H' := Aside0.mk H
   clear H
   have hcz13_0 : w4.cell? ⟨gb195, 0, none⟩ = some (.int .i64 a0_0) := (blk_cell BK195.out 0).trans rfl
   have hcz13_1 : w4.cell? ⟨gb195, 1, none⟩ = some (.slice A0_1 l0_1.length c0_1) := (blk_cell BK195.out 1).trans rfl
   have hfz13_0 := blk_frozen BK195.out 0
   have hfz13_1 := blk_frozen BK195.out 1
   go_wp2_with (first | ((with_reducible refine gate_callee (f := 68) rfl ?_); refine goesL_ (some 10) rfl rfl Try.func68 (by kernel_rfl) rfl #[.agg #[.int .i64 a0_0, .slice A0_1 l0_1.length c0_1]] rfl lmB ?_; (with_reducible refine (spec_l12Few.calls k a0_0 _ _ l0_1 false _ ?side1 ?side2 A6.out).mono ?_); (case side1 => repeat (first | exact (Kd.V_reads' HO0_1.out).2.2 | (with_reducible refine Kd.C_alloc ?_ _) | (with_reducible refine Kd.C_drewN ?_ _) | (with_reducible refine Kd.C_drew ?_))); (case side2 => exact (Kd.V_reads' HO0_1.out).2.1); rintro e w14 ⟨rfl, hb⟩; refine ⟨_, rfl, ?_⟩; have n0_ := Aside0.mk (Kd.V_below (by (with_reducible repeat (first | apply Kd.V_alloc | apply Kd.V_drewN | apply Kd.V_drew)); exact HO0_1.out) hb); have n1_ := Aside0.mk (Kd.R_below (rvR HO198.out) hb); have n2_ := Aside0.mk (blk_below (g := gb195) (o := .cells #[.int .i64 a0_0, .slice A0_1 l0_1.length c0_1] 29 (0, 0)) (bvK BK195.out) hb); have n3_ := Aside0.mk (below_step (by repeat (first | (with_reducible first | exact HB.out | apply bwA | apply bwN | apply bwD | refine below_set ?_ GE195.out) | exact HB.out)) hb); clear HO0_1; clear HO198; clear BK195; clear HB; have HO0_1 := n0_; have HO198 := n1_; have BK195 := n2_; have HB := n3_; clear n0_ n1_ n2_ n3_; (try clear hb); (try clear hb2); (try clear hk); (try clear hi)))
   go_meet
   case rel => exact ⟨_, (true), rsd, H', ⟨by first | omega | exact Nat.le_refl _⟩, ⟨by (with_reducible repeat (first | apply Kd.R_alloc | apply Kd.R_drewN | apply Kd.R_drew)); exact Kd.R_mono HO198.out (fun _ hk => hk.1)⟩, ⟨by (with_reducible repeat (first | apply Kd.V_alloc | apply Kd.V_drewN | apply Kd.V_drew)); exact Kd.V_mono HO0_1.out (fun _ hk => ⟨hk.1.1, ⟨hk.2, hk.1.2⟩⟩)⟩, ⟨bvK BK195.out⟩, ⟨by repeat (first | (with_reducible first | exact HB.out | apply bwA | apply bwN | apply bwD | refine below_set ?_ GE195.out) | exact HB.out)⟩⟩
 case rest =>
  clear HC2
  try clear p2
  try clear c4
  try clear c6
  try clear c7
  try clear hcz11_0
  try clear hcz11_1
  try clear hcz13_0
  try clear hcz13_1
  try clear hcz9_0
  try clear hcz9_1
  try clear hfz11_0
  try clear hfz11_1
  try clear hfz13_0
  try clear hfz13_1
  try clear hfz9_0
  try clear hfz9_1
  obtain ⟨kq, x15_1, rfl, HA, HJ1, HO_3, HO_196001, BK195, HB⟩ := hcut
  cases kq with
  | zero => exact absurd HA.out (by simp [spec_CoreOf.j0])
  | succ kj1 =>
   have H := HA.out
   clear HA
   simp only [spec_CoreOf.j0] at H
   by_cases c15 : x15_1 = true
   ·subst c15
    have H1 : (some y196) = some r := by rw [if_pos rfl] at H; exact H
    clear H
    have H := H1
    clear H1
    obtain rfl := Option.some.inj H
    go_wp2
    go_ret
    exact ⟨_, ers, by (with_reducible repeat (first | apply Kd.R_alloc | apply Kd.R_drewN | apply Kd.R_drew)); exact HO_3.out, by repeat (first | (with_reducible first | exact HB.out | apply bwA | apply bwN | apply bwD | refine below_set ?_ GE195.out) | exact HB.out)⟩
   ·replace c15 := Bool.eq_false_iff.mpr c15
    subst c15
    have H1 : (spec_CoreOf.l0 kj1 y196 l0_1 0 0 a0_0 l0_1) = some r := by rw [if_neg (show ¬ (false = true) by decide)] at H; exact H
    clear H
    have H := H1
    clear H1
    have H' := Aside0.mk H
    clear H
    have hcz16_0 : wc.cell? ⟨gb195, 0, none⟩ = some (.int .i64 a0_0) := (blk_cell BK195.out 0).trans rfl
    have hcz16_1 : wc.cell? ⟨gb195, 1, none⟩ = some (.slice A0_1 l0_1.length c0_1) := (blk_cell BK195.out 1).trans rfl
    have hfz16_0 := blk_frozen BK195.out 0
    have hfz16_1 := blk_frozen BK195.out 1
    go_wp2
    go_loopg [3, 4, 5, 6] kj1 (fun kq v3 v4 v5 v6 w' => ∃ (x3_2 : List Int) (x4_2 : List (List Int)) (x5_2 : Int) (x6_2 : Int), v5 = .int .i64 x5_2 ∧ v6 = .int .i64 x6_2 ∧ Aside0 (spec_CoreOf.l0 kq x3_2 x4_2 x5_2 x6_2 a0_0 l0_1 = some r) ∧ Aside0 (kq ≤ kj1) ∧ Aside0 (Kd.R (Kd.int .i64) 3 w' w.heap.size (fun k_ => (w.heap.size ≤ k_)) v3 x3_2) ∧ Aside0 (Kd.V (Kd.slice 3 (Kd.int .i64)) 25 w' w.heap.size (fun k_ => (P0_1_ k_ ∨ w.heap.size ≤ k_) ∧ some k_ ≠ (v3 : Value).ownBlock ∧ k_ ≠ gb195) v4 x4_2) ∧ Aside0 (Kd.V (Kd.slice 3 (Kd.int .i64)) 25 w' w.heap.size (fun k_ => (P0_1_ k_ ∨ w.heap.size ≤ k_) ∧ some k_ ≠ (v3 : Value).ownBlock ∧ k_ ≠ gb195) (.slice A0_1 l0_1.length c0_1) l0_1) ∧ Aside0 (w'.heap[gb195]? = some (.cells #[.int .i64 a0_0, (.slice A0_1 l0_1.length c0_1)] 29 (0, 0))) ∧ Aside0 (Below w.heap.size w w'))
    case atStart => exact ⟨(y196), (l0_1), (0), (0), rsd, rsd, H', ⟨Nat.le_refl _⟩, ⟨rvR HO_3.out⟩, ⟨by (with_reducible repeat (first | apply Kd.V_alloc | apply Kd.V_drewN | apply Kd.V_drew)); exact HO_196001.out⟩, ⟨by (with_reducible repeat (first | apply Kd.V_alloc | apply Kd.V_drewN | apply Kd.V_drew)); exact HO_196001.out⟩, ⟨bvK BK195.out⟩, ⟨by repeat (first | (with_reducible first | exact HB.out | apply bwA | apply bwN | apply bwD | refine below_set ?_ GE195.out) | exact HB.out)⟩⟩
    case round =>
     clear H'
     try clear c1
     try clear p2
     try clear c4
     try clear c6
     try clear c7
     try clear c15
     try clear hcz11_0
     try clear hcz11_1
     try clear hcz13_0
     try clear hcz13_1
     try clear hcz16_0
     try clear hcz16_1
     try clear hcz9_0
     try clear hcz9_1
     try clear hfz11_0
     try clear hfz11_1
     try clear hfz13_0
     try clear hfz13_1
     try clear hfz16_0
     try clear hfz16_1
     try clear hfz9_0
     try clear hfz9_1
     try clear p2
     obtain ⟨x3_2, x4_2, x5_2, x6_2, rfl, rfl, HA, HK2, HO_3, HO_4, HO_196001, BK195, HB⟩ := hrel
     cases gk with
     | zero => exact absurd HA.out (by simp [spec_CoreOf.l0])
     | succ k2 =>
      have H := HA.out
      clear HA
      simp only [spec_CoreOf.l0] at H
      by_cases c17 : x6_2 < (l0_1.length : Int)
      ·rw [if_pos c17] at H
       have c17b0 : decide (x6_2 < (l0_1.length : Int)) = true := decide_eq_true c17
       clear c17
       replace H := Option.bind_eq_some_iff.mp H
       obtain ⟨t201, A180, H⟩ := H
       replace H : (if 0 ≤ (wrap64 (a0_0 + 1)) then (if (wrap64 (a0_0 + 1) : Int).toNat ≤ 35184372088832 then ((spec_l12Open.f k2 t201 (List.replicate (wrap64 (a0_0 + 1) : Int).toNat 0)).bind fun t207 => (if t207 = true then (if x3_2.length < 17592186044416 then (spec_CoreOf.l0 k2 (x3_2 ++ [x6_2]) x4_2 (wrap64 (x5_2 + 1)) (wrap64 (x6_2 + 1)) a0_0 l0_1) else (none)) else (spec_CoreOf.l0 k2 x3_2 t201 x5_2 (wrap64 (x6_2 + 1)) a0_0 l0_1))) else (none)) else (none)) = some r := H
       have A18 := Aside0.mk A180
       clear A180
       obtain ⟨ji19, hji19⟩ : ∃ j_ : Int, (wrap64 (a0_0 + 1)) = j_ := ⟨_, rfl⟩
       replace H : (if 0 ≤ (ji19) then (if (ji19 : Int).toNat ≤ 35184372088832 then ((spec_l12Open.f k2 t201 (List.replicate (ji19 : Int).toNat 0)).bind fun t207 => (if t207 = true then (if x3_2.length < 17592186044416 then (spec_CoreOf.l0 k2 (x3_2 ++ [x6_2]) x4_2 (wrap64 (x5_2 + 1)) (wrap64 (x6_2 + 1)) a0_0 l0_1) else (none)) else (spec_CoreOf.l0 k2 x3_2 t201 x5_2 (wrap64 (x6_2 + 1)) a0_0 l0_1))) else (none)) else (none)) = some r := by first | (rw [hji19] at H; exact H) | (simp only [hji19] at H ⊢; exact H)
       (try rw [hji19] at A18)
       have hji19w : (IntKind.i64.wrap (a0_0 + 1)) = ji19 := (i64_w _).trans hji19
       by_cases c20 : 0 ≤ (ji19)
       ·rw [if_pos c20] at H
        have c20b0 := eq_true c20
        have c20b1 : decide (0 ≤ (ji19)) = true := decide_eq_true c20
        clear c20
        by_cases c21 : (ji19 : Int).toNat ≤ 35184372088832
        ·rw [if_pos c21] at H
         have c21b0 := eq_true c21
         have c21b1 : decide ((ji19 : Int).toNat ≤ 35184372088832) = true := decide_eq_true c21
         clear c21
         obtain ⟨y204, hy204⟩ : ∃ y_ : List Int, y_ = (List.replicate (ji19 : Int).toNat 0) := ⟨_, rfl⟩
         replace H : ((spec_l12Open.f k2 t201 y204).bind fun t207 => (if t207 = true then (if x3_2.length < 17592186044416 then (spec_CoreOf.l0 k2 (x3_2 ++ [x6_2]) x4_2 (wrap64 (x5_2 + 1)) (wrap64 (x6_2 + 1)) a0_0 l0_1) else (none)) else (spec_CoreOf.l0 k2 x3_2 t201 x5_2 (wrap64 (x6_2 + 1)) a0_0 l0_1))) = some r := by first | (rw [hy204]; with_reducible exact H) | (have H2_ := (Option.bind_some _ _).symm.trans H; rw [hy204]; with_reducible exact H2_) | (have H2_ := (Option.bind_some _ _).symm.trans H; with_reducible exact H2_) | with_reducible exact H | (rw [hy204]; exact H) | exact H
         have Ny204 := Aside0.mk hy204
         clear hy204
         replace H := Option.bind_eq_some_iff.mp H
         obtain ⟨t207, A220, H⟩ := H
         replace H : (if t207 = true then (if x3_2.length < 17592186044416 then (spec_CoreOf.l0 k2 (x3_2 ++ [x6_2]) x4_2 (wrap64 (x5_2 + 1)) (wrap64 (x6_2 + 1)) a0_0 l0_1) else (none)) else (spec_CoreOf.l0 k2 x3_2 t201 x5_2 (wrap64 (x6_2 + 1)) a0_0 l0_1)) = some r := H
         have A22 := Aside0.mk A220
         clear A220
         by_cases c23 : t207 = true
         ·subst c23
          have H1 : (if x3_2.length < 17592186044416 then (spec_CoreOf.l0 k2 (x3_2 ++ [x6_2]) x4_2 (wrap64 (x5_2 + 1)) (wrap64 (x6_2 + 1)) a0_0 l0_1) else (none)) = some r := by rw [if_pos rfl] at H; exact H
          clear H
          have H := H1
          clear H1
          by_cases c24 : x3_2.length < 17592186044416
          ·rw [if_pos c24] at H
           have LMc24 := Aside0.mk c24
           clear c24
           obtain ⟨y208, hy208⟩ : ∃ y_ : List Int, y_ = (x3_2 ++ [x6_2]) := ⟨_, rfl⟩
           replace H : (spec_CoreOf.l0 k2 y208 x4_2 (wrap64 (x5_2 + 1)) (wrap64 (x6_2 + 1)) a0_0 l0_1) = some r := by first | (rw [hy208]; with_reducible exact H) | (have H2_ := (Option.bind_some _ _).symm.trans H; rw [hy208]; with_reducible exact H2_) | (have H2_ := (Option.bind_some _ _).symm.trans H; with_reducible exact H2_) | with_reducible exact H | (rw [hy208]; exact H) | exact H
           have Ny208 := Aside0.mk hy208
           clear hy208
           have H' := Aside0.mk H
           clear H
           have hcz25_0 : wr.cell? ⟨gb195, 0, none⟩ = some (.int .i64 a0_0) := (blk_cell BK195.out 0).trans rfl
           have hcz25_1 : wr.cell? ⟨gb195, 1, none⟩ = some (.slice A0_1 l0_1.length c0_1) := (blk_cell BK195.out 1).trans rfl
           have hfz25_0 := blk_frozen BK195.out 0
           have hfz25_1 := blk_frozen BK195.out 1
           obtain ⟨Ao26, co26, eo26⟩ := Kd.V_slice HO_4.out
           subst eo26
           go_wp2_with (first | ((with_reducible refine gate_callee (f := 83) rfl ?_); refine goesL_ (some 28) rfl rfl Try.func83 (by kernel_rfl) rfl #[.slice Ao26 x4_2.length co26, .int .i64 x5_2] rfl lmB ?_; (with_reducible refine (spec_l12Without.calls k2 (fun k_ => ((P0_1_ k_ ∨ w.heap.size ≤ k_) ∧ (some k_ ≠ (u3 : Value).ownBlock ∧ k_ ≠ gb195))) _ _ x4_2 x5_2 t201 _ ?side1 A18.out).mono ?_); (case side1 => exact HO_4.out); rintro e w27 ⟨v202, rfl, ho0, hb⟩; refine ⟨_, rfl, ?_⟩; have n0_ := Aside0.mk (Kd.R_below (rvR HO_3.out) hb); have n1_ := Aside0.mk (Kd.V_elder' (by (with_reducible repeat (first | apply Kd.V_alloc | apply Kd.V_drewN | apply Kd.V_drew)); exact HO_4.out) (Kd.N_base ho0) hb); have n2_ := Aside0.mk (Kd.V_elder' (by (with_reducible repeat (first | apply Kd.V_alloc | apply Kd.V_drewN | apply Kd.V_drew)); exact HO_196001.out) (Kd.N_base ho0) hb); have n3_ := Aside0.mk (Kd.N_lower (Kd.N_mono (ok' := fun k_ => (P0_1_ k_ ∨ w.heap.size ≤ k_) ∧ some k_ ≠ (u3 : Value).ownBlock ∧ k_ ≠ gb195) ho0 (fun k_ hk_ => ⟨Or.elim hk_ (fun hs_ => hs_.1) (fun hn_ => (.inr (Nat.le_trans (below_size (by repeat (first | (with_reducible first | exact HB.out | apply bwA | apply bwN | apply bwD | refine below_set ?_ GE195.out) | exact HB.out))) hn_))), Or.elim hk_ (fun hs_ => hs_.2.1) (fun hn_ => (Kd.fresh' (Kd.R_lt (rvR HO_3.out)) k_ hn_)), Or.elim hk_ (fun hs_ => hs_.2.2) (fun hn_ => (Kd.freshB (g := gb195) (o := .cells #[.int .i64 a0_0, .slice A0_1 l0_1.length c0_1] 29 (0, 0)) (bvK BK195.out) k_ hn_))⟩)) (below_size (by repeat (first | (with_reducible first | exact HB.out | apply bwA | apply bwN | apply bwD | refine below_set ?_ GE195.out) | exact HB.out)))); have n4_ := Aside0.mk (blk_below (g := gb195) (o := .cells #[.int .i64 a0_0, .slice A0_1 l0_1.length c0_1] 29 (0, 0)) (bvK BK195.out) hb); have n5_ := Aside0.mk (below_step (by repeat (first | (with_reducible first | exact HB.out | apply bwA | apply bwN | apply bwD | refine below_set ?_ GE195.out) | exact HB.out)) hb); clear HO_3; clear HO_4; clear HO_196001; clear BK195; clear HB; have HO_3 := n0_; have HO_4 := n1_; have HO_196001 := n2_; have HO203 := n3_; have BK195 := n4_; have HB := n5_; clear n0_ n1_ n2_ n3_ n4_ n5_; (try clear hb); (try clear hb2); (try clear hk); (try clear hi); (try clear ho0); have hcz28_0 : w27.cell? ⟨gb195, 0, none⟩ = some (.int .i64 a0_0) := (blk_cell BK195.out 0).trans rfl; have hcz28_1 : w27.cell? ⟨gb195, 1, none⟩ = some (.slice A0_1 l0_1.length c0_1) := (blk_cell BK195.out 1).trans rfl; have hfz28_0 := blk_frozen BK195.out 0; have hfz28_1 := blk_frozen BK195.out 1) | ((with_reducible refine gate_dst (N := 33) rfl ?_); refine Kd.R_make (Kd.int .i64) _ 3 rfl (N := 33) rfl 25 _ _ rfl ji19 rfl rfl Try.underlying25 (.int .i64 0) 8 info3 rfl (by decide) (by omega) 0 (ok := fun _ => True) (okp := fun _ => True) rfl (fun _ hk => hk) trivial (oda) (Nat.le_trans (Nat.mul_le_mul_right _ (oda : ji19.toNat ≤ 35184372088832)) (by omega)) (Below.refl _ _) (Nat.le_refl _) ?_; intro v205 w29 ho30 hb hg_ hnew_; clear hg_ hnew_; (first | rw [← Ny204.out] at ho30 | (simp only [Int.reduceToNat] at ho30; rw [← Ny204.out] at ho30)); have n0_ := Aside0.mk (Kd.R_elder' (rvR HO_3.out) (Kd.R_base ho30) hb); have n1_ := Aside0.mk (Kd.V_elder' (by (with_reducible repeat (first | apply Kd.V_alloc | apply Kd.V_drewN | apply Kd.V_drew)); exact HO_4.out) (Kd.R_base ho30) hb); have n2_ := Aside0.mk (Kd.V_elder' (by (with_reducible repeat (first | apply Kd.V_alloc | apply Kd.V_drewN | apply Kd.V_drew)); exact HO_196001.out) (Kd.R_base ho30) hb); have n3_ := Aside0.mk (Kd.N_elder' (by (with_reducible repeat (first | apply Kd.N_alloc | apply Kd.N_drewN | apply Kd.N_drew)); exact HO203.out) (Kd.R_base ho30) hb); have n4_ := Aside0.mk (Kd.R_lower (Kd.R_new' (Kd.R_newM (M := fun k_ => (w.heap.size ≤ k_)) ho30 (below_size (by repeat (first | (with_reducible first | exact HB.out | apply bwA | apply bwN | apply bwD | refine below_set ?_ GE195.out) | exact HB.out))) (fun k_ h_ => h_)) (Kd.R_lt (rvR HO_3.out))) (below_size (by repeat (first | (with_reducible first | exact HB.out | apply bwA | apply bwN | apply bwD | refine below_set ?_ GE195.out) | exact HB.out)))); have n5_ := Aside0.mk (blk_below (g := gb195) (o := .cells #[.int .i64 a0_0, .slice A0_1 l0_1.length c0_1] 29 (0, 0)) (bvK BK195.out) hb); have n6_ := Aside0.mk (below_step (by repeat (first | (with_reducible first | exact HB.out | apply bwA | apply bwN | apply bwD | refine below_set ?_ GE195.out) | exact HB.out)) hb); clear HO_3; clear HO_4; clear HO_196001; clear HO203; clear BK195; clear HB; have HO_3 := n0_; have HO_4 := n1_; have HO_196001 := n2_; have HO203 := n3_; have HO206 := n4_; have BK195 := n5_; have HB := n6_; clear n0_ n1_ n2_ n3_ n4_ n5_ n6_; clear hb ho30; obtain ⟨Ao31, co31, eo31⟩ := Kd.N_slice HO203.out; subst eo31; obtain ⟨Ao32, co32, eo32⟩ := Kd.R_slice HO206.out; subst eo32) | ((with_reducible refine gate_callee (f := 84) rfl ?_); refine goesL_ (some 34) rfl rfl Try.func84 (by kernel_rfl) rfl #[.slice Ao31 t201.length co31, .slice Ao32 y204.length co32] rfl lmB ?_; (with_reducible refine (spec_l12Open.calls k2 _ _ t201 _ _ y204 true _ ?side1 ?side2 ?side3 ?side4 A22.out).mono ?_); (case side1 => repeat (first | exact (Kd.N_reads' HO203.out).2.2 | (with_reducible refine Kd.C_alloc ?_ _) | (with_reducible refine Kd.C_drewN ?_ _) | (with_reducible refine Kd.C_drew ?_))); (case side2 => exact (Kd.N_reads' HO203.out).2.1); (case side3 => repeat (first | exact (Kd.R_reads' HO206.out).2.2 | (with_reducible refine Kd.C_alloc ?_ _) | (with_reducible refine Kd.C_drewN ?_ _) | (with_reducible refine Kd.C_drew ?_))); (case side4 => exact (Kd.R_reads' HO206.out).2.1); rintro e w33 ⟨rfl, hb⟩; refine ⟨_, rfl, ?_⟩; have n0_ := Aside0.mk (Kd.R_below (rvR HO_3.out) hb); have n1_ := Aside0.mk (Kd.V_below (by (with_reducible repeat (first | apply Kd.V_alloc | apply Kd.V_drewN | apply Kd.V_drew)); exact HO_4.out) hb); have n2_ := Aside0.mk (Kd.V_below (by (with_reducible repeat (first | apply Kd.V_alloc | apply Kd.V_drewN | apply Kd.V_drew)); exact HO_196001.out) hb); have n3_ := Aside0.mk (Kd.N_below (by (with_reducible repeat (first | apply Kd.N_alloc | apply Kd.N_drewN | apply Kd.N_drew)); exact HO203.out) hb); have n4_ := Aside0.mk (Kd.R_below (rvR HO206.out) hb); have n5_ := Aside0.mk (blk_below (g := gb195) (o := .cells #[.int .i64 a0_0, .slice A0_1 l0_1.length c0_1] 29 (0, 0)) (bvK BK195.out) hb); have n6_ := Aside0.mk (below_step (by repeat (first | (with_reducible first | exact HB.out | apply bwA | apply bwN | apply bwD | refine below_set ?_ GE195.out) | exact HB.out)) hb); clear HO_3; clear HO_4; clear HO_196001; clear HO203; clear HO206; clear BK195; clear HB; have HO_3 := n0_; have HO_4 := n1_; have HO_196001 := n2_; have HO203 := n3_; have HO206 := n4_; have BK195 := n5_; have HB := n6_; clear n0_ n1_ n2_ n3_ n4_ n5_ n6_; (try clear hb); (try clear hb2); (try clear hk); (try clear hi)) | ((with_reducible refine gate_builtin (b := .append) (xs := #[.tmp 35, .tmp 37]) rfl ?_); at_builtin; refine Kd.R_append (Kd.int .i64) (w0 := w) w.heap.size rfl (.tmp 35) (.tmp 37) 25 3 (.int .i64 0) 8 rfl Try.underlying25 info3 rfl (by decide) (by omega) u3 x3_2 x6_2 [.int .i64 x6_2] (fun k_ => (w.heap.size ≤ k_) ∧ some k_ ≠ (.slice Ao32 y204.length co32 : Value).ownBlock) (fun _ => False) rfl rfl ?aP (fun _ hk => hk.elim) ?aF ?aO ?aB ?aS ?aL ?_; (case aP => exact rfl); (case aB => exact (by repeat (first | (with_reducible first | exact HB.out | apply bwA | apply bwN | apply bwD | refine below_set ?_ GE195.out) | exact HB.out))); (case aF => exact (fun k_ hk => ⟨(Nat.le_trans (below_size (by repeat (first | (with_reducible first | exact HB.out | apply bwA | apply bwN | apply bwD | refine below_set ?_ GE195.out) | exact HB.out))) hk), Kd.fresh' (Kd.R_lt (rvR HO206.out)) k_ hk⟩)); (case aO => exact (rvR HO_3.out)); (case aS => exact (below_size (by repeat (first | (with_reducible first | exact HB.out | apply bwA | apply bwN | apply bwD | refine below_set ?_ GE195.out) | exact HB.out)))); (case aL => have := LMc24.out; omega); intro v209 w34 ho hb hg hat; rw [← Ny208.out] at ho; have n0_ := Aside0.mk (Kd.V_afterv (ok := (fun k_ => (P0_1_ k_ ∨ w.heap.size ≤ k_) ∧ some k_ ≠ (.slice Ao31 t201.length co31 : Value).ownBlock ∧ some k_ ≠ (.slice Ao32 y204.length co32 : Value).ownBlock ∧ k_ ≠ gb195)) (by (with_reducible repeat (first | apply Kd.V_alloc | apply Kd.V_drewN | apply Kd.V_drew)); exact Kd.V_mono HO_4.out (fun _ hk => ⟨⟨hk.1.1.1, ⟨hk.1.2, ⟨hk.2, hk.1.1.2.2⟩⟩⟩, hk.1.1.2.1⟩)) hg hat); have n1_ := Aside0.mk (Kd.V_afterv (ok := (fun k_ => (P0_1_ k_ ∨ w.heap.size ≤ k_) ∧ some k_ ≠ (.slice Ao31 t201.length co31 : Value).ownBlock ∧ some k_ ≠ (.slice Ao32 y204.length co32 : Value).ownBlock ∧ k_ ≠ gb195)) (by (with_reducible repeat (first | apply Kd.V_alloc | apply Kd.V_drewN | apply Kd.V_drew)); exact Kd.V_mono HO_196001.out (fun _ hk => ⟨⟨hk.1.1.1, ⟨hk.1.2, ⟨hk.2, hk.1.1.2.2⟩⟩⟩, hk.1.1.2.1⟩)) hg hat); have n2_ := Aside0.mk (blk_grown (g := gb195) (o := .cells #[.int .i64 a0_0, .slice A0_1 l0_1.length c0_1] 29 (0, 0)) (bvK BK195.out) hg (Kd.R_ne HO_3.out BK195.out (by decide))); have n3_ := Aside0.mk (Kd.N_afterv (ok := (fun k_ => (P0_1_ k_ ∨ w.heap.size ≤ k_) ∧ some k_ ≠ (.slice Ao32 y204.length co32 : Value).ownBlock ∧ k_ ≠ gb195)) (by (with_reducible repeat (first | apply Kd.N_alloc | apply Kd.N_drewN | apply Kd.N_drew)); exact Kd.N_mono HO203.out (fun _ hk => ⟨⟨hk.1.1, ⟨hk.2, hk.1.2.2⟩⟩, hk.1.2.1⟩)) hg hat); have n4_ := Aside0.mk (Kd.R_after (ok := (fun k_ => (w.heap.size ≤ k_))) (by (with_reducible repeat (first | apply Kd.R_alloc | apply Kd.R_drewN | apply Kd.R_drew)); exact Kd.R_mono HO206.out (fun _ hk => ⟨hk.1.1, hk.2⟩)) hg hat); have n5_ := Aside0.mk (hb); have n6_ := Aside0.mk (ho); clear HO_4; clear HO_196001; clear BK195; clear HO203; clear HO206; clear HB; clear HO_3; have HO_4 := n0_; have HO_196001 := n1_; have BK195 := n2_; have HO203 := n3_; have HO206 := n4_; have HB := n5_; have HO210 := n6_; clear n0_ n1_ n2_ n3_ n4_ n5_ n6_; clear ho hb hg hat))
           go_roundg k2
           case measure => have := HJ1.out; have := HK2.out; omega
           case rel => exact ⟨(y208), (x4_2), (wrap64 (x5_2 + 1)), (wrap64 (x6_2 + 1)), rsd, rsd, H', ⟨by have := HJ1.out; have := HK2.out; omega⟩, ⟨by (with_reducible repeat (first | apply Kd.R_alloc | apply Kd.R_drewN | apply Kd.R_drew)); exact Kd.R_mono HO210.out (fun _ hk => hk.1)⟩, ⟨by (with_reducible repeat (first | apply Kd.V_alloc | apply Kd.V_drewN | apply Kd.V_drew)); exact Kd.V_mono HO_4.out (fun _ hk => ⟨hk.1.1, ⟨hk.2, hk.1.2.2.2⟩⟩)⟩, ⟨by (with_reducible repeat (first | apply Kd.V_alloc | apply Kd.V_drewN | apply Kd.V_drew)); exact Kd.V_mono HO_196001.out (fun _ hk => ⟨hk.1.1, ⟨hk.2, hk.1.2.2.2⟩⟩)⟩, ⟨bvK BK195.out⟩, ⟨by repeat (first | (with_reducible first | exact HB.out | apply bwA | apply bwN | apply bwD | refine below_set ?_ GE195.out) | exact HB.out)⟩⟩
          ·rw [if_neg c24] at H
           exact absurd H (by simp)
         ·replace c23 := Bool.eq_false_iff.mpr c23
          subst c23
          have H1 : (spec_CoreOf.l0 k2 x3_2 t201 x5_2 (wrap64 (x6_2 + 1)) a0_0 l0_1) = some r := by rw [if_neg (show ¬ (false = true) by decide)] at H; exact H
          clear H
          have H := H1
          clear H1
          have H' := Aside0.mk H
          clear H
          have hcz35_0 : wr.cell? ⟨gb195, 0, none⟩ = some (.int .i64 a0_0) := (blk_cell BK195.out 0).trans rfl
          have hcz35_1 : wr.cell? ⟨gb195, 1, none⟩ = some (.slice A0_1 l0_1.length c0_1) := (blk_cell BK195.out 1).trans rfl
          have hfz35_0 := blk_frozen BK195.out 0
          have hfz35_1 := blk_frozen BK195.out 1
          obtain ⟨Ao36, co36, eo36⟩ := Kd.V_slice HO_4.out
          subst eo36
          go_wp2_with (first | ((with_reducible refine gate_callee (f := 83) rfl ?_); refine goesL_ (some 28) rfl rfl Try.func83 (by kernel_rfl) rfl #[.slice Ao36 x4_2.length co36, .int .i64 x5_2] rfl lmB ?_; (with_reducible refine (spec_l12Without.calls k2 (fun k_ => ((P0_1_ k_ ∨ w.heap.size ≤ k_) ∧ (some k_ ≠ (u3 : Value).ownBlock ∧ k_ ≠ gb195))) _ _ x4_2 x5_2 t201 _ ?side1 A18.out).mono ?_); (case side1 => exact HO_4.out); rintro e w37 ⟨v202, rfl, ho0, hb⟩; refine ⟨_, rfl, ?_⟩; have n0_ := Aside0.mk (Kd.R_below (rvR HO_3.out) hb); have n1_ := Aside0.mk (Kd.V_elder' (by (with_reducible repeat (first | apply Kd.V_alloc | apply Kd.V_drewN | apply Kd.V_drew)); exact HO_4.out) (Kd.N_base ho0) hb); have n2_ := Aside0.mk (Kd.V_elder' (by (with_reducible repeat (first | apply Kd.V_alloc | apply Kd.V_drewN | apply Kd.V_drew)); exact HO_196001.out) (Kd.N_base ho0) hb); have n3_ := Aside0.mk (Kd.N_lower (Kd.N_mono (ok' := fun k_ => (P0_1_ k_ ∨ w.heap.size ≤ k_) ∧ some k_ ≠ (u3 : Value).ownBlock ∧ k_ ≠ gb195) ho0 (fun k_ hk_ => ⟨Or.elim hk_ (fun hs_ => hs_.1) (fun hn_ => (.inr (Nat.le_trans (below_size (by repeat (first | (with_reducible first | exact HB.out | apply bwA | apply bwN | apply bwD | refine below_set ?_ GE195.out) | exact HB.out))) hn_))), Or.elim hk_ (fun hs_ => hs_.2.1) (fun hn_ => (Kd.fresh' (Kd.R_lt (rvR HO_3.out)) k_ hn_)), Or.elim hk_ (fun hs_ => hs_.2.2) (fun hn_ => (Kd.freshB (g := gb195) (o := .cells #[.int .i64 a0_0, .slice A0_1 l0_1.length c0_1] 29 (0, 0)) (bvK BK195.out) k_ hn_))⟩)) (below_size (by repeat (first | (with_reducible first | exact HB.out | apply bwA | apply bwN | apply bwD | refine below_set ?_ GE195.out) | exact HB.out)))); have n4_ := Aside0.mk (blk_below (g := gb195) (o := .cells #[.int .i64 a0_0, .slice A0_1 l0_1.length c0_1] 29 (0, 0)) (bvK BK195.out) hb); have n5_ := Aside0.mk (below_step (by repeat (first | (with_reducible first | exact HB.out | apply bwA | apply bwN | apply bwD | refine below_set ?_ GE195.out) | exact HB.out)) hb); clear HO_3; clear HO_4; clear HO_196001; clear BK195; clear HB; have HO_3 := n0_; have HO_4 := n1_; have HO_196001 := n2_; have HO203 := n3_; have BK195 := n4_; have HB := n5_; clear n0_ n1_ n2_ n3_ n4_ n5_; (try clear hb); (try clear hb2); (try clear hk); (try clear hi); (try clear ho0); have hcz38_0 : w37.cell? ⟨gb195, 0, none⟩ = some (.int .i64 a0_0) := (blk_cell BK195.out 0).trans rfl; have hcz38_1 : w37.cell? ⟨gb195, 1, none⟩ = some (.slice A0_1 l0_1.length c0_1) := (blk_cell BK195.out 1).trans rfl; have hfz38_0 := blk_frozen BK195.out 0; have hfz38_1 := blk_frozen BK195.out 1) | ((with_reducible refine gate_dst (N := 33) rfl ?_); refine Kd.R_make (Kd.int .i64) _ 3 rfl (N := 33) rfl 25 _ _ rfl ji19 rfl rfl Try.underlying25 (.int .i64 0) 8 info3 rfl (by decide) (by omega) 0 (ok := fun _ => True) (okp := fun _ => True) rfl (fun _ hk => hk) trivial (oda) (Nat.le_trans (Nat.mul_le_mul_right _ (oda : ji19.toNat ≤ 35184372088832)) (by omega)) (Below.refl _ _) (Nat.le_refl _) ?_; intro v205 w39 ho40 hb hg_ hnew_; clear hg_ hnew_; (first | rw [← Ny204.out] at ho40 | (simp only [Int.reduceToNat] at ho40; rw [← Ny204.out] at ho40)); have n0_ := Aside0.mk (Kd.R_elder' (rvR HO_3.out) (Kd.R_base ho40) hb); have n1_ := Aside0.mk (Kd.V_elder' (by (with_reducible repeat (first | apply Kd.V_alloc | apply Kd.V_drewN | apply Kd.V_drew)); exact HO_4.out) (Kd.R_base ho40) hb); have n2_ := Aside0.mk (Kd.V_elder' (by (with_reducible repeat (first | apply Kd.V_alloc | apply Kd.V_drewN | apply Kd.V_drew)); exact HO_196001.out) (Kd.R_base ho40) hb); have n3_ := Aside0.mk (Kd.N_elder' (by (with_reducible repeat (first | apply Kd.N_alloc | apply Kd.N_drewN | apply Kd.N_drew)); exact HO203.out) (Kd.R_base ho40) hb); have n4_ := Aside0.mk (Kd.R_lower (Kd.R_new' (Kd.R_newM (M := fun k_ => (w.heap.size ≤ k_)) ho40 (below_size (by repeat (first | (with_reducible first | exact HB.out | apply bwA | apply bwN | apply bwD | refine below_set ?_ GE195.out) | exact HB.out))) (fun k_ h_ => h_)) (Kd.R_lt (rvR HO_3.out))) (below_size (by repeat (first | (with_reducible first | exact HB.out | apply bwA | apply bwN | apply bwD | refine below_set ?_ GE195.out) | exact HB.out)))); have n5_ := Aside0.mk (blk_below (g := gb195) (o := .cells #[.int .i64 a0_0, .slice A0_1 l0_1.length c0_1] 29 (0, 0)) (bvK BK195.out) hb); have n6_ := Aside0.mk (below_step (by repeat (first | (with_reducible first | exact HB.out | apply bwA | apply bwN | apply bwD | refine below_set ?_ GE195.out) | exact HB.out)) hb); clear HO_3; clear HO_4; clear HO_196001; clear HO203; clear BK195; clear HB; have HO_3 := n0_; have HO_4 := n1_; have HO_196001 := n2_; have HO203 := n3_; have HO206 := n4_; have BK195 := n5_; have HB := n6_; clear n0_ n1_ n2_ n3_ n4_ n5_ n6_; clear hb ho40; obtain ⟨Ao41, co41, eo41⟩ := Kd.N_slice HO203.out; subst eo41; obtain ⟨Ao42, co42, eo42⟩ := Kd.R_slice HO206.out; subst eo42) | ((with_reducible refine gate_callee (f := 84) rfl ?_); refine goesL_ (some 34) rfl rfl Try.func84 (by kernel_rfl) rfl #[.slice Ao41 t201.length co41, .slice Ao42 y204.length co42] rfl lmB ?_; (with_reducible refine (spec_l12Open.calls k2 _ _ t201 _ _ y204 false _ ?side1 ?side2 ?side3 ?side4 A22.out).mono ?_); (case side1 => repeat (first | exact (Kd.N_reads' HO203.out).2.2 | (with_reducible refine Kd.C_alloc ?_ _) | (with_reducible refine Kd.C_drewN ?_ _) | (with_reducible refine Kd.C_drew ?_))); (case side2 => exact (Kd.N_reads' HO203.out).2.1); (case side3 => repeat (first | exact (Kd.R_reads' HO206.out).2.2 | (with_reducible refine Kd.C_alloc ?_ _) | (with_reducible refine Kd.C_drewN ?_ _) | (with_reducible refine Kd.C_drew ?_))); (case side4 => exact (Kd.R_reads' HO206.out).2.1); rintro e w43 ⟨rfl, hb⟩; refine ⟨_, rfl, ?_⟩; have n0_ := Aside0.mk (Kd.R_below (rvR HO_3.out) hb); have n1_ := Aside0.mk (Kd.V_below (by (with_reducible repeat (first | apply Kd.V_alloc | apply Kd.V_drewN | apply Kd.V_drew)); exact HO_4.out) hb); have n2_ := Aside0.mk (Kd.V_below (by (with_reducible repeat (first | apply Kd.V_alloc | apply Kd.V_drewN | apply Kd.V_drew)); exact HO_196001.out) hb); have n3_ := Aside0.mk (Kd.N_below (by (with_reducible repeat (first | apply Kd.N_alloc | apply Kd.N_drewN | apply Kd.N_drew)); exact HO203.out) hb); have n4_ := Aside0.mk (Kd.R_below (rvR HO206.out) hb); have n5_ := Aside0.mk (blk_below (g := gb195) (o := .cells #[.int .i64 a0_0, .slice A0_1 l0_1.length c0_1] 29 (0, 0)) (bvK BK195.out) hb); have n6_ := Aside0.mk (below_step (by repeat (first | (with_reducible first | exact HB.out | apply bwA | apply bwN | apply bwD | refine below_set ?_ GE195.out) | exact HB.out)) hb); clear HO_3; clear HO_4; clear HO_196001; clear HO203; clear HO206; clear BK195; clear HB; have HO_3 := n0_; have HO_4 := n1_; have HO_196001 := n2_; have HO203 := n3_; have HO206 := n4_; have BK195 := n5_; have HB := n6_; clear n0_ n1_ n2_ n3_ n4_ n5_ n6_; (try clear hb); (try clear hb2); (try clear hk); (try clear hi)))
          go_roundg k2
          case measure => have := HJ1.out; have := HK2.out; omega
          case rel => exact ⟨(x3_2), (t201), (x5_2), (wrap64 (x6_2 + 1)), rsd, rsd, H', ⟨by have := HJ1.out; have := HK2.out; omega⟩, ⟨by (with_reducible repeat (first | apply Kd.R_alloc | apply Kd.R_drewN | apply Kd.R_drew)); exact Kd.R_mono HO_3.out (fun _ hk => hk.1)⟩, ⟨Kd.N_V (by (with_reducible repeat (first | apply Kd.N_alloc | apply Kd.N_drewN | apply Kd.N_drew)); exact Kd.N_mono HO203.out (fun _ hk => ⟨hk.1.1, ⟨hk.1.2.1, hk.1.2.2⟩⟩))⟩, ⟨by (with_reducible repeat (first | apply Kd.V_alloc | apply Kd.V_drewN | apply Kd.V_drew)); exact Kd.V_mono HO_196001.out (fun _ hk => ⟨hk.1.1.1, ⟨hk.1.1.2.1, hk.1.1.2.2⟩⟩)⟩, ⟨bvK BK195.out⟩, ⟨by repeat (first | (with_reducible first | exact HB.out | apply bwA | apply bwN | apply bwD | refine below_set ?_ GE195.out) | exact HB.out)⟩⟩
        ·rw [if_neg c21] at H
         exact absurd H (by simp)
       ·rw [if_neg c20] at H
        exact absurd H (by simp)
      ·rw [if_neg c17] at H
       have c17b0 : decide (x6_2 < (l0_1.length : Int)) = false := decide_eq_false c17
       clear c17
       obtain rfl := Option.some.inj H
       have hcz44_0 : wr.cell? ⟨gb195, 0, none⟩ = some (.int .i64 a0_0) := (blk_cell BK195.out 0).trans rfl
       have hcz44_1 : wr.cell? ⟨gb195, 1, none⟩ = some (.slice A0_1 l0_1.length c0_1) := (blk_cell BK195.out 1).trans rfl
       have hfz44_0 := blk_frozen BK195.out 0
       have hfz44_1 := blk_frozen BK195.out 1
       go_wp2
       go_ret
       exact ⟨_, ers, by (with_reducible repeat (first | apply Kd.R_alloc | apply Kd.R_drewN | apply Kd.R_drew)); exact HO_3.out, by repeat (first | (with_reducible first | exact HB.out | apply bwA | apply bwN | apply bwD | refine below_set ?_ GE195.out) | exact HB.out)⟩

/-! ### impl_clone_int: function 54 -/
def impl_clone_int.f (l0 : List Int) : Option (List Int) := if l0.length ≤ 35184372088832 then some l0 else none
set_option maxHeartbeats 400000 in
set_option maxRecDepth 100000 in
theorem impl_clone_int.calls (A0 : Option Addr) (c0 : Nat) (l0 : List Int) (r : List Int) (w : World) (hr0 : Kd.C (Kd.int .i64) w A0 l0.length l0) (hc0 : l0.length ≤ c0) (h : impl_clone_int.f l0 = some r) :
  Calls Try.prog 54 #[.slice A0 l0.length c0] w fun e w' => ∃ v0_ : Value, e = .returned (v0_) ∧ Kd.R (Kd.int .i64) 3 w' w.heap.size (fun _ => True) v0_ r ∧ Below w.heap.size w w' := by
 unfold impl_clone_int.f at h
 by_cases c1 : l0.length ≤ 35184372088832
 ·rw [if_pos c1] at h
  obtain rfl := Option.some.inj h
  clear h
  have HR0 := Aside0.mk hr0
  have C1 := Aside0.mk c1
  clear hr0 c1
  by_cases c2 : l0.length = 0
  ·have c2b : ((l0.length : Int) == 0) = true := by rw [beq_iff_eq]; omega
   have HL := Aside0.mk (List.eq_nil_of_length_eq_zero c2)
   clear c2
   go_enter Try.func54, Try.ntmps54
   go_wp2
   go_ret
   exact ⟨_, rfl, by rw [HL.out]; exact Kd.R_nil _ _ _ _ _, Below.refl _ _⟩
  ·have c2b : ((l0.length : Int) == 0) = false := by rw [beq_eq_false_iff_ne]; omega
   have c2c : (l0.length == 0) = false := by rw [beq_eq_false_iff_ne]; omega
   go_enter Try.func54, Try.ntmps54
   go_wp2_with (first | ((with_reducible refine gate_dst (N := 9) rfl ?_); refine Kd.R_make (Kd.int .i64) _ 3 rfl (N := 9) rfl 25 _ _ rfl (l0.length : Int) rfl rfl Try.underlying25 (.int .i64 0) 8 info3 rfl (by decide) (by omega) 0 (ok := fun _ => True) (okp := fun _ => True) rfl (fun _ hk => hk) trivial (by omega) (by have := C1.out; omega) (Below.refl _ _) (Nat.le_refl _) ?_; intro v178 w4 ho5 hb hg_ hnew_; clear hg_ hnew_; have HO := Aside0.mk ho5; have HB := Aside0.mk hb; clear hb ho5) | ((with_reducible refine gate_dst (N := 12) rfl ?_); refine Copy.R_copy (w0 := w) (xs := List.replicate (l0.length : Int).toNat 0) (ys := l0) w.heap.size 3 rfl _ _ 25 25 rfl Try.underlying25 (by kernel_rfl) rfl rfl (by simp) HO.out (Kd.C_below HR0.out HB.out) HB.out ?_; intro w5 ho5 hb; clear HB; have HO5 := Aside0.mk ho5; have HB := Aside0.mk hb; clear hb ho5))
   go_ret
   exact ⟨_, rfl, HO5.out, HB.out⟩
 ·rw [if_neg c1] at h
  exact absurd h (by simp)

/-! ### impl_satisfiable: function 73 -/
def impl_satisfiable.f (k : Nat) (a0 : Int) (l1 : List (List Int)) : Option Bool := impl_models.f (fun (_ : Bool) (_ : Int) => (false, true)) k false a0 l1
theorem impl_satisfiable.mono : ∀ a0 a1 k, LeO (impl_satisfiable.f k a0 a1) (impl_satisfiable.f (k + 1) a0 a1) := fun a0 a1 k => impl_models.mono _ false a0 a1 k
theorem impl_satisfiable_visit (B gb : Nat) (hB : B ≤ gb) : ∀ (s : Bool) (x : Int) W, W.heap[gb]? = some (.cells #[.bool s] 4 (0, 0)) → Calls Try.prog 104 (#[.int .i64 x] ++ #[.pointer (some ⟨gb, 0, none⟩)]) W fun e w' => e = .returned (.bool false) ∧ w'.heap[gb]? = some (.cells #[.bool true] 4 (0, 0)) ∧ Kept W w' (fun k => k = gb) ∧ Below B W w' := by
 intro s x W hW
 have hcz : W.cell? ⟨gb, 0, none⟩ = some (.bool s) := (blk_cell hW 0).trans rfl
 have hfz := blk_frozen hW 0
 have HW := Aside0.mk hW
 clear hW
 show Calls Try.prog 104 #[.int .i64 x, .pointer (some ⟨gb, 0, none⟩)] W _
 go_enter Try.func104, Try.ntmps104
 go_wp2
 go_ret
 exact ⟨rfl, blk_set HW.out 0 _, Kept.setCell (S := fun k => k = gb) (Kept.refl _ _) (.inl rfl) _, (Below.refl _ _).setCell hB _⟩
set_option maxHeartbeats 400000 in
theorem impl_satisfiable.calls (k : Nat) (a0 : Int) (A1 : Option Addr) (c1 : Nat) (l1 : List (List Int)) (r : Bool) (w : World) (hr1 : Kd.C (Kd.slice 3 (Kd.int .i64)) w A1 l1.length l1) (hc1 : l1.length ≤ c1) (h : impl_satisfiable.f k a0 l1 = some r) :
  Calls Try.prog 73 #[.int .i64 a0, .slice A1 l1.length c1] w fun e w' => e = .returned (.bool r) ∧ Below w.heap.size w w' := by
 have eg : ∀ args w, (callFunc 104 args).run Try.prog w = .ok (.enter 104 args) w := enters_of Try.func104 (by kernel_rfl) rfl
 have EG := Aside0.mk eg
 have HR := Aside0.mk hr1
 have HC1 := Aside0.mk hc1
 have H := Aside0.mk h
 clear eg h hr1 hc1
 go_enter Try.func73, Try.ntmps73
 go_wp2_with (go_at_call 78; refine (impl_models.calls _ w.heap.size w (fun k => k = w.heap.size) (fun s W => W.heap[w.heap.size]? = some (.cells #[.bool s] 4 (0, 0))) _ _ EG.out k false a0 A1 c1 l1 r _ (fun i hi => by rw [hi]; simp) (fun s W W1 h1 h2 => (h2 _ rfl).trans h1) (impl_satisfiable_visit w.heap.size w.heap.size (Nat.le_refl _)) (blk_new _ _) (below_alloc (Below.refl _ _) _) (by simp) (Kd.C_alloc HR.out _) HC1.out H.out).mono ?_; rintro e w1 ⟨rfl, hi_, hb_⟩; have hcz1 : w1.cell? ⟨w.heap.size, 0, none⟩ = some (.bool r) := (blk_cell hi_ 0).trans rfl; have hfz1 := blk_frozen hi_ 0; have HB1 := Aside0.mk hb_; clear hi_ hb_)
 go_ret
 exact ⟨rfl, HB1.out⟩

/-! ### impl_numbered: function 85 -/
def impl_numbered.l0 : Nat → List Int → Int → Int → Option (List Int)
 | 0, _, _, _ => none
 | k + 1, x3, x8, x9 => if x9 < x8 then (if 0 ≤ x9 then (if x9 < (x3.length : Int) then (impl_numbered.l0 k (x3.set (x9 : Int).toNat x9) x8 (wrap64 (x9 + 1))) else (none)) else (none)) else (some x3)
def impl_numbered.f (k : Nat) (a0 : Int) : Option (List Int) := if 0 ≤ a0 then (if (a0 : Int).toNat ≤ 35184372088832 then ((some (List.replicate (a0 : Int).toNat 0 : List Int)).bind fun y211 => (impl_numbered.l0 k y211 (y211.length : Int) 0)) else (none)) else (none)
theorem impl_numbered.mono_l : ∀ k, (∀ y0 y1 y2, LeO (impl_numbered.l0 k y0 y1 y2) (impl_numbered.l0 (k + 1) y0 y1 y2))
 | 0 => fun _ _ _ r h => by simp [impl_numbered.l0] at h
 | k + 1 => by
  have ih0 := impl_numbered.mono_l k
  ·intro y0 y1 y2
   unfold impl_numbered.l0
   repeat' first
   | (with_reducible exact ih0 _ _ _)
   | (with_reducible exact LeO.refl _)
   | (with_reducible exact LeO.none _)
   | (with_reducible refine LeO.ite ?_ ?_)
   | (with_reducible refine LeO.bind ?_ (fun _ => ?_))
   | exact ih0 _ _ _
   | exact LeO.none _
   | refine LeO.ite ?_ ?_
   | refine LeO.bind ?_ (fun _ => ?_)
theorem impl_numbered.mono : ∀ a0 k, LeO (impl_numbered.f k a0) (impl_numbered.f (k + 1) a0) := by
 intro a0 k
 have ih0 := impl_numbered.mono_l k
 unfold impl_numbered.f
 repeat' first
   | (with_reducible exact ih0 _ _ _)
   | (with_reducible exact LeO.refl _)
   | (with_reducible exact LeO.none _)
   | (with_reducible refine LeO.ite ?_ ?_)
   | (with_reducible refine LeO.bind ?_ (fun _ => ?_))
   | exact ih0 _ _ _
   | exact LeO.none _
   | refine LeO.ite ?_ ?_
   | refine LeO.bind ?_ (fun _ => ?_)
set_option maxHeartbeats 8000000 in
set_option maxRecDepth 100000 in
theorem impl_numbered.calls (k : Nat) (a0 : Int) (r : List Int) (w : World) (h : impl_numbered.f k a0 = some r) :
  Calls Try.prog 85 #[.int .i64 a0] w fun e w' => ∃ v0_ : Value, e = .returned (v0_) ∧ Kd.R (Kd.int .i64) 3 w' w.heap.size (fun _ => True) v0_ r ∧ Below w.heap.size w w' := by
 have HB := Aside0.mk (Below.refl w.heap.size w)
 have H : (if 0 ≤ a0 then (if (a0 : Int).toNat ≤ 35184372088832 then ((some (List.replicate (a0 : Int).toNat 0 : List Int)).bind fun y211 => (impl_numbered.l0 k y211 (y211.length : Int) 0)) else (none)) else (none)) = some r := h
 clear h
 by_cases c2 : 0 ≤ a0
 ·rw [if_pos c2] at H
  have c2b0 := eq_true c2
  have c2b1 : decide (0 ≤ a0) = true := decide_eq_true c2
  clear c2
  by_cases c3 : (a0 : Int).toNat ≤ 35184372088832
  ·rw [if_pos c3] at H
   have c3b0 := eq_true c3
   have c3b1 : decide ((a0 : Int).toNat ≤ 35184372088832) = true := decide_eq_true c3
   clear c3
   obtain ⟨y211, hy211⟩ : ∃ y_ : List Int, y_ = (List.replicate (a0 : Int).toNat 0) := ⟨_, rfl⟩
   replace H : (impl_numbered.l0 k y211 (y211.length : Int) 0) = some r := by first | (rw [hy211]; with_reducible exact H) | (have H2_ := (Option.bind_some _ _).symm.trans H; rw [hy211]; with_reducible exact H2_) | (have H2_ := (Option.bind_some _ _).symm.trans H; with_reducible exact H2_) | with_reducible exact H | (rw [hy211]; exact H) | exact H
   have Ny211 := Aside0.mk hy211
   clear hy211
   have H' := Aside0.mk H
   clear H
   go_enter Try.func85, Try.ntmps85
   go_wp2_with (first | ((with_reducible refine gate_dst (N := 6) rfl ?_); refine Kd.R_make (Kd.int .i64) _ 3 rfl (N := 6) rfl 25 _ _ rfl a0 rfl rfl Try.underlying25 (.int .i64 0) 8 info3 rfl (by decide) (by omega) 0 (ok := fun _ => True) (okp := fun _ => True) rfl (fun _ hk => hk) trivial (oda) (Nat.le_trans (Nat.mul_le_mul_right _ (oda : a0.toNat ≤ 35184372088832)) (by omega)) (Below.refl _ _) (Nat.le_refl _) ?_; intro v212 w4 ho5 hb hg_ hnew_; clear hg_ hnew_; (first | rw [← Ny211.out] at ho5 | (simp only [Int.reduceToNat] at ho5; rw [← Ny211.out] at ho5)); have n0_ := Aside0.mk (Kd.R_lower ho5 (below_size (by repeat (first | (with_reducible first | exact HB.out | apply bwA | apply bwN | apply bwD) | exact HB.out)))); have n1_ := Aside0.mk (below_step (by repeat (first | (with_reducible first | exact HB.out | apply bwA | apply bwN | apply bwD) | exact HB.out)) hb); clear HB; have HO213 := n0_; have HB := n1_; clear n0_ n1_; clear hb ho5; obtain ⟨Ao6, co6, eo6⟩ := Kd.R_slice HO213.out; subst eo6))
   go_loopg [9] k (fun kq v9 w' => ∃ (x3_1 : List Int) (x9_1 : Int), v9 = .int .i64 x9_1 ∧ Aside0 (impl_numbered.l0 kq x3_1 (y211.length : Int) x9_1 = some r) ∧ Aside0 (kq ≤ k) ∧ Aside0 (Kd.R (Kd.int .i64) 3 w' w.heap.size (fun _ => True) (.slice Ao6 y211.length co6) x3_1) ∧ Aside0 (Below w.heap.size w w'))
   case atStart => exact ⟨(y211), (0), rsd, H', ⟨Nat.le_refl _⟩, ⟨rvR HO213.out⟩, ⟨by repeat (first | (with_reducible first | exact HB.out | apply bwA | apply bwN | apply bwD) | exact HB.out)⟩⟩
   case round =>
    clear H'
    try clear c2
    try clear c2b0
    try clear c2b1
    try clear p2
    try clear c3
    try clear c3b0
    try clear c3b1
    obtain ⟨x3_1, x9_1, rfl, HA, HK1, HO_3, HB⟩ := hrel
    have hl3_1 := (Kd.R_reads' HO_3.out).1
    rw [hl3_1] at HO_3
    (try simp only [hl3_1])
    cases gk with
    | zero => exact absurd HA.out (by simp [impl_numbered.l0])
    | succ k1 =>
     have H := HA.out
     clear HA
     simp only [impl_numbered.l0] at H
     by_cases c7 : x9_1 < (y211.length : Int)
     ·rw [if_pos c7] at H
      have c7b0 : decide (x9_1 < (y211.length : Int)) = true := decide_eq_true c7
      clear c7
      by_cases c8 : 0 ≤ x9_1
      ·rw [if_pos c8] at H
       have c8b0 : decide (0 ≤ x9_1) = true := decide_eq_true c8
       clear c8
       by_cases c9 : x9_1 < (x3_1.length : Int)
       ·rw [if_pos c9] at H
        have c9b0 : decide (x9_1 < (x3_1.length : Int)) = true := decide_eq_true c9
        clear c9
        obtain ⟨y214, hy214⟩ : ∃ y_ : List Int, y_ = (x3_1.set (x9_1 : Int).toNat x9_1) := ⟨_, rfl⟩
        replace H : (impl_numbered.l0 k1 y214 (y211.length : Int) (wrap64 (x9_1 + 1))) = some r := by first | (rw [hy214]; with_reducible exact H) | (have H2_ := (Option.bind_some _ _).symm.trans H; rw [hy214]; with_reducible exact H2_) | (have H2_ := (Option.bind_some _ _).symm.trans H; with_reducible exact H2_) | with_reducible exact H | (rw [hy214]; exact H) | exact H
        have Ny214 := Aside0.mk hy214
        clear hy214
        have H' := Aside0.mk H
        clear H
        have p10 : 0 ≤ (x9_1 : Int) := oda
        have q10 : (x9_1 : Int) < ((x3_1.length : Int) : Int) := oda
        obtain ⟨go10, co10, eo10, gb10, gl10, cl10, HG10⟩ := Kd.R_form HO_3.out (by omega)
        (first | cases eo10 | (injection eo10 with ea_ en_ ec_; (first | subst ea_ | (injection ea_ with ea_; subst ea_)); subst ec_; clear en_))
        have GB10 := Aside0.mk gb10
        have GG10 := Aside0.mk HG10
        clear gb10 gl10 HG10
        obtain ⟨hx10_0, hf10_0⟩ := Kd.R_celln 0 HO_3.out (x9_1 : Int) p10 q10
        replace p10 := eq_true p10
        replace q10 := eq_true q10
        have HP11 := Kd.R_putg HO_3.out (x9_1 : Int) x9_1
        go_wp2_with (first | ((with_reducible refine gate_store (t := 3) (p := 15) rfl ?_); refine store_event (t := 3) (p := 15) (v := ?vo_w12) (w1 := (wr.setCell ⟨go10, (x9_1 : Int).toNat, none⟩ (.int .i64 x9_1))) ?hg ?ho ?hn ?hr ?_; (case ho => rfl); (case hg => rfl); (case hn => rfl); (case hr => first | (go_simp; done) | (go_simp; rfl)); intro w12 hw; have hg : wr.grownBy w12 (some go10) := (by rw [hw]; exact HP11.2); have hp_ : Kd.R (Kd.int .i64) 3 w12 w.heap.size (fun _ => True) (.slice (some ⟨go10, 0, none⟩) x3_1.length co6) y214 := (by rw [hw, Ny214.out]; exact HP11.1); clear HP11; have n0_ := Aside0.mk (hp_); have n1_ := Aside0.mk ((by rw [hw]; exact below_set (HB.out) GB10.out : Below w.heap.size w w12)); clear HO_3; clear HB; have HO_3 := n0_; have HB := n1_; clear n0_ n1_; clear hg hw hp_))
        (try simp only [← hl3_1])
        go_roundg k1
        case measure => have := HK1.out; omega
        case rel => exact ⟨(y214), (wrap64 (x9_1 + 1)), rsd, H', ⟨by have := HK1.out; omega⟩, ⟨by (try simp only [hl3_1]); (with_reducible repeat (first | apply Kd.R_alloc | apply Kd.R_drewN | apply Kd.R_drew)); exact HO_3.out⟩, ⟨by repeat (first | (with_reducible first | exact HB.out | apply bwA | apply bwN | apply bwD) | exact HB.out)⟩⟩
       ·rw [if_neg c9] at H
        exact absurd H (by simp)
      ·rw [if_neg c8] at H
       exact absurd H (by simp)
     ·rw [if_neg c7] at H
      have c7b0 : decide (x9_1 < (y211.length : Int)) = false := decide_eq_false c7
      clear c7
      obtain rfl := Option.some.inj H
      (try rw [hl3_1] at c7b0)
      go_wp2
      go_ret
      exact ⟨_, ers, by (with_reducible repeat (first | apply Kd.R_alloc | apply Kd.R_drewN | apply Kd.R_drew)); exact HO_3.out, by repeat (first | (with_reducible first | exact HB.out | apply bwA | apply bwN | apply bwD) | exact HB.out)⟩
  ·rw [if_neg c3] at H
   exact absurd H (by simp)
 ·rw [if_neg c2] at H
  exact absurd H (by simp)

/-! ### slices_IndexFunc_int_int_109: function 109 -/
set_option maxHeartbeats 400000 in
theorem slices_IndexFunc_int_int_109.calls (g : Nat) (lb : Array Value) (eg : ∀ args w, (callFunc g args).run Try.prog w = .ok (.enter g args) w)
  (A0 : Option Addr) (c0 : Nat) (l0 : List Int) (p : Int → Option Bool) (r : Int) (w : World) (hr0 : Kd.C (Kd.int .i64) w A0 l0.length l0)
  (hp : ∀ (i : Int), 0 ≤ i → i < l0.length → ∀ b, p i = some b → ∀ W, Below w.heap.size w W → Calls Try.prog g (#[.int .i64 (rd l0 i)] ++ lb) W fun e w' => e = .returned (.bool b) ∧ Below W.heap.size W w')
  (h : Copy.idxO p l0.length 0 = some r) :
  Calls Try.prog 109 #[.slice A0 l0.length c0, .func (.func g) #[] lb] w fun e w' => e = .returned (.int .i64 r) ∧ Below w.heap.size w w' := by
 have hn : l0.length ≤ 9223372036854775807 := hr0.2.1
 have HR0 := Aside0.mk hr0
 have HP := Aside0.mk hp
 have H := Aside0.mk h
 clear hp hr0 h
 go_enter Try.func109, Try.ntmps109
 go_wp2
 go_loopg [5, 8] l0.length (fun gg _ s8 wr => ∃ kk : Int, 0 ≤ kk ∧ kk ≤ (l0.length : Int) ∧ Aside0 (l0.length ≤ gg + kk) ∧ s8 = .int .i64 kk ∧ Aside0 (Below w.heap.size w wr) ∧ Aside0 (Copy.idxO p (l0.length - kk.toNat) kk = some r))
 case atStart => exact ⟨0, by omega, by omega, ⟨by omega⟩, rfl, ⟨Below.refl _ _⟩, H⟩
 case round =>
  clear H
  obtain ⟨kk, h0, hkk, hg, rfl, HB, A⟩ := hrel
  by_cases hlt : kk < (l0.length : Int)
  ·have hltb : decide (kk < (l0.length : Int)) = true := decide_eq_true hlt
   obtain ⟨ad, e1, hx0⟩ := Kd.at_int (Kd.C_below HR0.out HB.out) kk h0 hlt
   cases e1
   have hd : l0.length - kk.toNat = (l0.length - (kk + 1).toNat) + 1 := by omega
   have A1 := A.out
   rw [hd, Copy.idxO] at A1
   clear A hd
   obtain ⟨b, hq, A1⟩ := Option.bind_eq_some_iff.mp A1
   have hcall := Aside0.mk (HP.out kk h0 hlt b hq _ HB.out)
   have H0 := Aside0.mk h0
   replace h0 := eq_true h0
   clear hq
   cases b with
   | true =>
    rw [if_pos rfl] at A1
    obtain rfl := Option.some.inj A1
    clear A1
    go_wp2_with (go_at_fn g; refine hcall.out.mono ?_; rintro e w' ⟨rfl, HB1⟩)
    go_ret
    exact ⟨rfl, below_then HB.out HB.out.size HB1⟩
   | false =>
    have A' := Aside0.mk A1
    clear A1
    have hw : wrap64 (kk + 1) = kk + 1 := by have := H0.out; unfold wrap64; omega
    have HW := Aside0.mk hw
    clear hw
    go_wp2_with (go_at_fn g; refine hcall.out.mono ?_; rintro e w' ⟨rfl, HB1⟩)
    go_roundg (l0.length - (kk + 1).toNat)
    case measure => have := hg.out; have := H0.out; omega
    case rel => exact ⟨kk + 1, by have := H0.out; omega, by omega, ⟨by have := H0.out; omega⟩, by first | rfl | rw [HW.out], ⟨below_then HB.out HB.out.size HB1⟩, ⟨by have := A'.out; simpa using this⟩⟩
  ·have hltb : decide (kk < (l0.length : Int)) = false := decide_eq_false hlt
   have this : kk.toNat = l0.length := by omega
   have A1 := A.out
   rw [this, Nat.sub_self, Copy.idxO] at A1
   obtain rfl := Option.some.inj A1
   clear A A1 this
   go_wp2
   go_ret
   exact ⟨rfl, HB.out⟩

/-! ### slices_DeleteFunc_int_int: function 86 -/
theorem slices_DeleteFunc_int_int.take_succ (l : List Int) (i : Nat) (h : i < l.length) : l.take (i + 1) = l.take i ++ [rd l (i : Int)] := by
 rw [List.take_add_one, List.getElem?_eq_getElem h]
 show l.take i ++ [l[i]] = l.take i ++ [l.getD ((i : Int)).toNat 0]
 rw [Int.toNat_natCast, List.getD_eq_getElem?_getD, List.getElem?_eq_getElem h]
 rfl
theorem slices_DeleteFunc_int_int.idx_tot (p : Int → Bool) (l : List Int) : ∀ (d i : Nat), i + d = l.length → (l.take i).filter (fun x => !p x) = l.take i →
  ∃ r : Int, Copy.idxO (fun j => some (p (rd l j))) d (i : Int) = some r ∧ ((r = -1 ∧ l.filter (fun x => !p x) = l) ∨ ∃ k : Nat, r = (k : Int) ∧ k < l.length ∧ (l.take (k + 1)).filter (fun x => !p x) = l.take k) := by
 intro d
 induction d with
 | zero =>
  intro i hi hf
  refine ⟨-1, rfl, .inl ⟨rfl, ?_⟩⟩
  rwa [List.take_of_length_le (by omega)] at hf
 | succ d ih =>
  intro i hi hf
  have ht := slices_DeleteFunc_int_int.take_succ l i (by omega)
  rw [Copy.idxO]
  cases hp : p (rd l (i : Int)) with
  | true =>
   refine ⟨i, by simp, .inr ⟨i, rfl, by omega, ?_⟩⟩
   rw [ht, List.filter_append, hf]
   simp [hp]
  | false =>
   obtain ⟨r, h1, h2⟩ := ih (i + 1) (by omega) (by rw [ht, List.filter_append, hf]; simp [hp])
   exact ⟨r, by simpa using h1, h2⟩
theorem slices_DeleteFunc_int_int.clears {e base g n cap : Nat} {ok : Nat → Prop} : ∀ (m o : Nat) (W : World) (xs : List Int), Kd.R (Kd.int .i64) e W base ok (.slice (some ⟨g, 0, none⟩) n cap) xs →
  ∃ ys, Kd.R (Kd.int .i64) e (W.setCells g o (List.replicate m (.int .i64 0))) base ok (.slice (some ⟨g, 0, none⟩) n cap) ys ∧ ys.take o = xs.take o ∧ ys.length = xs.length ∧ W.grownBy (W.setCells g o (List.replicate m (.int .i64 0))) (some g) := by
 intro m
 induction m with
 | zero =>
  intro o W xs h
  exact ⟨xs, h, rfl, rfl, World.grownBy.refl W _⟩
 | succ m ih =>
  intro o W xs h
  obtain ⟨h1, h2⟩ := Kd.R_putg h (o : Int) 0
  rw [Int.toNat_natCast] at h1 h2
  obtain ⟨ys, k1, k2, k3, k4⟩ := ih (o + 1) _ _ h1
  refine ⟨ys, k1, ?_, by rw [k3, List.length_set], h2.trans k4⟩
  have := congrArg (List.take o) k2
  rw [List.take_take, List.take_take, Nat.min_eq_left (by omega)] at this
  rw [this, List.take_set, List.set_eq_of_length_le (by simp; omega)]
theorem slices_DeleteFunc_int_int.cut {e base g n cap : Nat} {ok : Nat → Prop} {W : World} {xs : List Int} (h : Kd.R (Kd.int .i64) e W base ok (.slice (some ⟨g, 0, none⟩) n cap) xs) (m : Nat) (hm : m ≤ n) : Kd.R (Kd.int .i64) e W base ok (.slice (some ⟨g, 0, none⟩) m cap) (xs.take m) := by
 have hn := (Kd.R_reads' h).1
 have hl : (xs.take m).length = m := by rw [List.length_take]; omega
 refine Kd.R_of_own ?_ h.1
 obtain ⟨h1, h2⟩ := Kd.own_of_R h
 refine ⟨by simp [encs], ?_⟩
 rcases h2 with ⟨e1, _⟩ | ⟨g', cap', cur, e1, hb, hh, hc, hx, hs, ht⟩
 ·cases e1
 ·cases e1
  refine .inr ⟨g, cap, cur, by rw [hl], hb, hh, by omega, hx, hs, ?_⟩
  rw [hl, Nat.mul_one]
  have := congrArg (List.take m) ht
  rw [List.take_take, Nat.min_eq_left (by omega)] at this
  rw [this]
  simp [encs]
def slices_DeleteFunc_int_int.Inv (p : Int → Bool) (l0 : List Int) (i j : Nat) (xs : List Int) : Prop :=
 xs.length = l0.length ∧ xs.take i = (l0.take j).filter (fun x => !p x) ∧ i ≤ xs.length ∧ ∀ t : Nat, j ≤ t → t < l0.length → rd xs (t : Int) = rd l0 (t : Int)
theorem slices_DeleteFunc_int_int.Inv.keep {p : Int → Bool} {l0 : List Int} {i j : Nat} {xs : List Int} (h : slices_DeleteFunc_int_int.Inv p l0 i j xs) (hij : i < j) (hj : j < l0.length) (hp : p (rd l0 (j : Int)) = false) : slices_DeleteFunc_int_int.Inv p l0 (i + 1) (j + 1) (xs.set i (rd l0 (j : Int))) := by
 obtain ⟨h1, h2, h3, h4⟩ := h
 refine ⟨by rw [List.length_set, h1], ?_, by rw [List.length_set]; omega, fun t ht htl => ?_⟩
 ·rw [slices_DeleteFunc_int_int.take_succ l0 j hj, List.filter_append, ← h2, List.take_add_one, List.take_set, List.set_eq_of_length_le (by simp [Nat.min_le_left]), List.getElem?_set_self (by omega)]
  simp [hp]
 ·rw [← h4 t (by omega) htl]
  show (xs.set i _).getD _ 0 = xs.getD _ 0
  rw [Int.toNat_natCast, List.getD_eq_getElem?_getD, List.getD_eq_getElem?_getD, List.getElem?_set_ne (by omega)]
theorem slices_DeleteFunc_int_int.Inv.skip {p : Int → Bool} {l0 : List Int} {i j : Nat} {xs : List Int} (h : slices_DeleteFunc_int_int.Inv p l0 i j xs) (hj : j < l0.length) (hp : p (rd l0 (j : Int)) = true) : slices_DeleteFunc_int_int.Inv p l0 i (j + 1) xs := by
 obtain ⟨h1, h2, h3, h4⟩ := h
 refine ⟨h1, ?_, h3, fun t ht htl => h4 t (by omega) htl⟩
 rw [slices_DeleteFunc_int_int.take_succ l0 j hj, List.filter_append, ← h2]
 simp [hp]
set_option maxHeartbeats 4000000 in
set_option maxRecDepth 100000 in
theorem slices_DeleteFunc_int_int.calls (g : Nat) (lb : Array Value) (eg : ∀ args w, (callFunc g args).run Try.prog w = .ok (.enter g args) w)
  (A0 : Option Addr) (c0 : Nat) (l0 : List Int) (p : Int → Bool) (w : World) (base : Nat) (ok : Nat → Prop) (hr0 : Kd.R (Kd.int .i64) 3 w base ok (.slice A0 l0.length c0) l0)
  (hp : ∀ (x : Int) (W : World), w.grownBy W (Value.slice A0 l0.length c0).ownBlock → Calls Try.prog g (#[.int .i64 x] ++ lb) W fun e w' => e = .returned (.bool (p x)) ∧ Below W.heap.size W w') :
  Calls Try.prog 86 #[.slice A0 l0.length c0, .func (.func g) #[] lb] w fun e w' => ∃ v : Value, e = .returned v ∧ v.ownBlock = (Value.slice A0 l0.length c0).ownBlock ∧ Kd.R (Kd.int .i64) 3 w' base ok v (l0.filter fun x => !p x) ∧ w.grownBy w' (Value.slice A0 l0.length c0).ownBlock := by
 obtain ⟨r, hx, hr⟩ := slices_DeleteFunc_int_int.idx_tot p l0 l0.length 0 (by omega) (by simp)
 have hI := slices_IndexFunc_int_int_109.calls g lb eg A0 c0 l0 (fun j => some (p (rd l0 j))) r w (Kd.R_reads' hr0).2.2 (fun i _ _ b hb W hW => by
  obtain rfl := Option.some.inj hb
  exact hp (rd l0 i) W (grown_of_below hW _)) hx
 have hlen : l0.length ≤ 9223372036854775807 := (Kd.R_reads' hr0).2.2.2.1
 rcases hr with ⟨rfl, hall⟩ | ⟨k0, rfl, hk0, hpre⟩
 ·rw [hall]
  have HR0 := Aside0.mk hr0
  have HI := Aside0.mk hI
  clear hI hr0 hp hx hall
  go_enter Try.func86, Try.ntmps86
  go_wp2_with (go_at_call 109; refine HI.out.mono ?_; rintro e w' ⟨rfl, HB1⟩)
  go_ret
  exact ⟨_, rfl, rfl, Kd.R_below HR0.out HB1, grown_of_below HB1 _⟩
 ·obtain ⟨go, c0_, eo, gb, gl, cells, hg⟩ := Kd.R_form hr0 (by omega)
  cases eo
  have hcap := (Kd.R_reads' hr0).2.1
  have HR0 := Aside0.mk hr0
  have HI := Aside0.mk hI
  have HP := Aside0.mk hp
  have HL := Aside0.mk hpre
  have zer_ : ∀ w, (zeroValue 3).run Try.prog w = .ok (.int .i64 0) w := by
   intro w
   go_simp
  have und_ : Try.prog.underlying 25 = some (.slice 3) := Try.underlying25
  clear hI hr0 hp hx hpre hg
  have hne1 : ((k0 : Int) == -1) = false := beq_eq_false_iff_ne.2 (by omega)
  go_enter Try.func86, Try.ntmps86
  go_wp2_with (go_at_call 109; refine HI.out.mono ?_; rintro e w' ⟨rfl, HB1⟩)
  have HO := Aside0.mk (Kd.R_below HR0.out HB1)
  have HG := Aside0.mk (grown_of_below HB1 (some go))
  clear HB1 HR0 HI
  go_loopg [5, 6, 7] l0.length (fun gg s5 s6 _ wr => ∃ (i j : Nat) (xs : List Int), s5 = .int .i64 i ∧ s6 = .int .i64 j ∧ j ≤ l0.length ∧ l0.length - j ≤ gg ∧ i < j ∧ Aside0 (Kd.R (Kd.int .i64) 3 wr base ok (.slice (some ⟨go, 0, none⟩) l0.length c0) xs) ∧ Aside0 (w.grownBy wr (some go)) ∧ Aside0 (slices_DeleteFunc_int_int.Inv p l0 i j xs))
  case atStart => exact ⟨k0, k0 + 1, l0, rfl, by go_num, by omega, by omega, by omega, HO, HG, ⟨⟨rfl, by rw [HL.out], by omega, fun _ _ _ => rfl⟩⟩⟩
  case round =>
   clear HO HG HL
   obtain ⟨i, j, xs, rfl, rfl, hjd, hgg, hij, HO, HG, HV⟩ := hrel
   by_cases hlt : j < l0.length
   ·have hltz : (j : Int) < (l0.length : Int) := by omega
    obtain ⟨cj, _⟩ := Kd.R_celln 0 HO.out (j : Int) (by omega) (by omega)
    have ej : rd xs (j : Int) = rd l0 (j : Int) := HV.out.2.2.2 j (Nat.le_refl _) hlt
    replace cj : wr.cell? ⟨go, j, none⟩ = some (.int .i64 (rd l0 (j : Int))) := by
     rw [← ej]
     exact cj
    have hcall := Aside0.mk (HP.out (rd l0 (j : Int)) wr HG.out)
    clear ej
    cases hq : p (rd l0 (j : Int)) with
    | false =>
     rw [hq] at hcall
     have HQ := Aside0.mk hq
     clear hq
     go_wp2_with (go_at_fn g; refine hcall.out.mono ?_; rintro e w' ⟨rfl, HB1⟩; have HO2 := Aside0.mk (Kd.R_below HO.out HB1); have HG2 := Aside0.mk (HG.out.trans (grown_of_below HB1 _)); obtain ⟨ci, fi⟩ := Kd.R_celln 0 HO2.out (i : Int) (by omega) (by omega); rw [Int.toNat_natCast] at ci fi; have HP2 := Aside0.mk (Kd.R_putg HO2.out (i : Int) (rd l0 (j : Int))); clear hcall HB1 HO HG)
     go_roundg (l0.length - (j + 1))
     case measure => omega
     case rel =>
      obtain ⟨h1, h2⟩ := HP2.out
      rw [Int.toNat_natCast] at h1 h2
      exact ⟨i + 1, j + 1, _, by go_num, by go_num, by omega, Nat.le_refl _, by omega, ⟨h1⟩, ⟨HG2.out.trans h2⟩, ⟨HV.out.keep hij hlt HQ.out⟩⟩
    | true =>
     rw [hq] at hcall
     have HQ := Aside0.mk hq
     clear hq
     go_wp2_with (go_at_fn g; refine hcall.out.mono ?_; rintro e w' ⟨rfl, HB1⟩; have HO2 := Aside0.mk (Kd.R_below HO.out HB1); have HG2 := Aside0.mk (HG.out.trans (grown_of_below HB1 _)); clear hcall HB1 HO HG)
     go_roundg (l0.length - (j + 1))
     case measure => omega
     case rel => exact ⟨i, j + 1, xs, rfl, by go_num, by omega, Nat.le_refl _, by omega, HO2, HG2, ⟨HV.out.skip hlt HQ.out⟩⟩
   ·obtain rfl : j = l0.length := by omega
    have hltz : ¬ (l0.length : Int) < (l0.length : Int) := by omega
    have hci := fun (t : Nat) (ht : t < l0.length) => Kd.R_celln 0 HO.out (t : Int) (by omega) (by omega)
    have hcl : ∀ ty, (Builtin.clear_ #[25] ty #[.slice (some ⟨go, i, none⟩) (l0.length - i) (c0 - i)]).run Try.prog wr = .ok (.tuple #[]) (wr.setCells go i (List.replicate (l0.length - i) (.int .i64 0))) :=
     fun ty => Lib.run_clear_slice wr _ _ ty _ und_ zer_ rfl rfl go i _ _ (by omega) (fun t ht => by rw [show (⟨go, i + t, none⟩ : Addr) = ⟨go, ((i + t : Nat) : Int).toNat, none⟩ by rw [Int.toNat_natCast], (hci (i + t) (by omega)).1]; rfl) (fun t ht => by rw [show (⟨go, i + t, none⟩ : Addr) = ⟨go, ((i + t : Nat) : Int).toNat, none⟩ by rw [Int.toNat_natCast]]; exact (hci (i + t) (by omega)).2)
    clear hci
    have hic : (i : Int) ≤ (c0 : Int) := by omega
    go_wp2
    go_ret
    obtain ⟨ys, y1, y2, y3, y4⟩ := slices_DeleteFunc_int_int.clears (l0.length - i) i _ _ HO.out
    obtain ⟨v1, v2, v3_, _⟩ := HV.out
    rw [List.take_length] at v2
    have := slices_DeleteFunc_int_int.cut y1 i (by omega)
    rw [y2, v2] at this
    exact ⟨_, rfl, rfl, this, HG.out.trans y4⟩

end Go.Proofs.Ytkfmgfdbdgjfiaa.QFnCoreOf
