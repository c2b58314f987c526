-- Written by a program of this session (mk.py). Lean checks it.
import Derived.Test.YtkfmgfdbdgjfiaaQFnExactCoreOfx0
import Derived.Test.YtkfmgfdbdgjfiaaQFnExactCoreOfx3
import Derived.Test.YtkfmgfdbdgjfiaaQFnExactCoreOfx4
namespace Go.Proofs.Ytkfmgfdbdgjfiaa.QFnExactCoreOf
open Go.RowKit Go.Proofs.YtkfmgfdbdgjfiaaW.PrintWords Go.Proofs.YtkfmgfdbdgjfiaaW.PrintLast Go.Proofs.YtkfmgfdbdgjfiaaW.PrintMore
attribute [local go_sem] max2_int min2_int max_two min_two max_three min_three max_four min_four   -- for this text's walks alone
set_option linter.unusedVariables false
set_option linter.unusedSimpArgs false

/-! ### spec_l12Without: function 83 -/
def spec_l12Without.l0 : Nat → List (List Int) → Int → List (List Int) → Int → Option ((List (List Int)))
 | 0, _, _, _, _ => none
 | k + 1, x0, x1, x5, x6 => if x6 < (x0.length : Int) then (if x6 = x1 then (spec_l12Without.l0 k x0 x1 x5 (wrap64 (x6 + 1))) else (if 0 ≤ x6 then (if x5.length < 5864062014805 then (spec_l12Without.l0 k x0 x1 (x5 ++ [rd_L1 x0 x6]) (wrap64 (x6 + 1))) else (none)) else (none))) else (some x5)
def spec_l12Without.f (k : Nat) (l0 : List (List Int)) (a1 : Int) : Option ((List (List Int))) := spec_l12Without.l0 k l0 a1 (([] : List (List Int))) 0
theorem spec_l12Without.mono_l : ∀ k, (∀ y0 y1 y2 y3, LeO (spec_l12Without.l0 k y0 y1 y2 y3) (spec_l12Without.l0 (k + 1) y0 y1 y2 y3))
 | 0 => fun _ _ _ _ r h => by simp [spec_l12Without.l0] at h
 | k + 1 => by
  have ih0 := spec_l12Without.mono_l k
  ·intro y0 y1 y2 y3
   unfold spec_l12Without.l0
   repeat' first
   | (with_reducible exact ih0 _ _ _ _)
   | (with_reducible exact LeO.refl _)
   | (with_reducible exact LeO.none _)
   | (with_reducible refine LeO.ite ?_ ?_)
   | (with_reducible refine LeO.bind ?_ (fun _ => ?_))
   | exact ih0 _ _ _ _
   | exact LeO.none _
   | refine LeO.ite ?_ ?_
   | refine LeO.bind ?_ (fun _ => ?_)
theorem spec_l12Without.mono : ∀ a0 a1 k, LeO (spec_l12Without.f k a0 a1) (spec_l12Without.f (k + 1) a0 a1) := by
 intro a0 a1 k
 have ih0 := spec_l12Without.mono_l k
 unfold spec_l12Without.f
 repeat' first
   | (with_reducible exact ih0 _ _ _ _)
   | (with_reducible exact LeO.refl _)
   | (with_reducible exact LeO.none _)
   | (with_reducible refine LeO.ite ?_ ?_)
   | (with_reducible refine LeO.bind ?_ (fun _ => ?_))
   | exact ih0 _ _ _ _
   | exact LeO.none _
   | refine LeO.ite ?_ ?_
   | refine LeO.bind ?_ (fun _ => ?_)
set_option maxHeartbeats 8000000 in
set_option maxRecDepth 100000 in
theorem spec_l12Without.calls (k : Nat) (P0_ : Nat → Prop) (A0 : Option Addr) (c0 : Nat) (l0 : List (List Int)) (a1 : Int) (r : List (List Int)) (w : World) (hs0 : Kd.V (Kd.slice 3 (Kd.int .i64)) 25 w w.heap.size (fun k_ => P0_ k_) (.slice A0 l0.length c0) l0) (h : spec_l12Without.f k l0 a1 = some r) :
  Calls Try.prog 83 #[.slice A0 l0.length c0, .int .i64 a1] w fun e w' => ∃ v0_ : Value, e = .returned (v0_) ∧ Kd.N (Kd.slice 3 (Kd.int .i64)) 25 w' w.heap.size (fun k_ => (P0_ k_ ∨ w.heap.size ≤ k_)) v0_ r ∧ Below w.heap.size w w' := by
 have HO0 := Aside0.mk (show Kd.V (Kd.slice 3 (Kd.int .i64)) 25 w w.heap.size (fun k_ => (P0_ k_ ∨ w.heap.size ≤ k_)) (.slice A0 l0.length c0) l0 from Kd.V_mono hs0 (fun k_ hk => .inl hk))
 have HB := Aside0.mk (Below.refl w.heap.size w)
 have H : (spec_l12Without.l0 k l0 a1 (([] : List (List Int))) 0) = some r := h
 clear h
 obtain ⟨y191, hy191⟩ : ∃ y_ : List (List Int), y_ = (([] : List (List Int))) := ⟨_, rfl⟩
 replace H : (spec_l12Without.l0 k l0 a1 y191 0) = some r := by first | (rw [hy191]; with_reducible exact H) | (have H2_ := (Option.bind_some _ _).symm.trans H; rw [hy191]; with_reducible exact H2_) | (have H2_ := (Option.bind_some _ _).symm.trans H; with_reducible exact H2_) | with_reducible exact H | (rw [hy191]; exact H) | exact H
 have Ny191 := Aside0.mk hy191
 clear hy191
 have H' := Aside0.mk H
 clear H
 go_enter Try.func83, Try.ntmps83
 go_wp2_with (first | ((with_reducible refine gate_dst (N := 7) rfl ?_); refine Kd.N_lit (Kd.slice 3 (Kd.int .i64)) _ 25 ?hg (N' := 7) ?hd (xs := ([] : List (List Int))) (inner := []) (ok := (fun k_ => (P0_ k_ ∨ w.heap.size ≤ k_))) (okp := (fun k_ => (P0_ k_ ∨ w.heap.size ≤ k_))) ?hr ?hp (fun _ hk => hk) ((show ∀ k_, w.heap.size ≤ k_ → (fun k_ => (P0_ k_ ∨ w.heap.size ≤ k_)) k_ from fun k_ hk => (.inr (Nat.le_trans (below_size (by repeat (first | (with_reducible first | exact HB.out | apply bwA | apply bwN | apply bwD) | exact HB.out))) hk))) _ (Nat.le_refl _)) (Below.refl _ _) (Nat.le_refl _) (by simp) ?_; (case hd => rfl); (case hg => rfl); (case hr => first | (go_simp; done) | (go_simp; rfl)); (case hp => exact (Reps.none _ _)); intro v192 w3 ho4 hb hg_ hnew_; clear hg_ hnew_; (first | rw [← Ny191.out] at ho4 | (simp only [Int.reduceToNat] at ho4; rw [← Ny191.out] at ho4)); have n0_ := Aside0.mk (Kd.V_elder' (by (with_reducible repeat (first | apply Kd.V_alloc | apply Kd.V_drewN | apply Kd.V_drew)); exact HO0.out) (Kd.N_base ho4) hb); have n1_ := Aside0.mk (Kd.N_lower ho4 (below_size (by repeat (first | (with_reducible first | exact HB.out | apply bwA | apply bwN | apply bwD) | exact HB.out)))); have n2_ := Aside0.mk (below_step (by repeat (first | (with_reducible first | exact HB.out | apply bwA | apply bwN | apply bwD) | exact HB.out)) hb); clear HO0; clear HB; have HO0 := n0_; have HO193 := n1_; have HB := n2_; clear n0_ n1_ n2_; clear hb ho4))
 go_loopg [5, 6] k (fun kq v5 v6 w' => ∃ (x5_1 : List (List Int)) (x6_1 : Int), v6 = .int .i64 x6_1 ∧ Aside0 (spec_l12Without.l0 kq l0 a1 x5_1 x6_1 = some r) ∧ Aside0 (kq ≤ k) ∧ Aside0 (Kd.V (Kd.slice 3 (Kd.int .i64)) 25 w' w.heap.size (fun k_ => (P0_ k_ ∨ w.heap.size ≤ k_) ∧ some k_ ≠ (v5 : Value).ownBlock) (.slice A0 l0.length c0) l0) ∧ Aside0 (Kd.N (Kd.slice 3 (Kd.int .i64)) 25 w' w.heap.size (fun k_ => (P0_ k_ ∨ w.heap.size ≤ k_)) v5 x5_1) ∧ Aside0 (Below w.heap.size w w'))
 case atStart => exact ⟨(y191), (0), (by first | rfl | (simp; done) | (simp [*]; done)), H', ⟨Nat.le_refl _⟩, ⟨by (with_reducible repeat (first | apply Kd.V_alloc | apply Kd.V_drewN | apply Kd.V_drew)); exact HO0.out⟩, ⟨by (with_reducible repeat (first | apply Kd.N_alloc | apply Kd.N_drewN | apply Kd.N_drew)); exact HO193.out⟩, ⟨by repeat (first | (with_reducible first | exact HB.out | apply bwA | apply bwN | apply bwD) | exact HB.out)⟩⟩
 case round =>
  clear H'
  try clear p2
  obtain ⟨x5_1, x6_1, rfl, HA, HK1, HO_0, HO_5, HB⟩ := hrel
  cases gk with
  | zero => exact absurd HA.out (by simp [spec_l12Without.l0])
  | succ k1 =>
   have H := HA.out
   clear HA
   simp only [spec_l12Without.l0] at H
   by_cases c5 : x6_1 < (l0.length : Int)
   ·rw [if_pos c5] at H
    have c5b0 : decide (x6_1 < (l0.length : Int)) = true := decide_eq_true c5
    clear c5
    by_cases c6 : x6_1 = a1
    ·rw [if_pos c6] at H
     have c6b0 : (x6_1 == a1) = true := beq_iff_eq.mpr c6
     have c6b1 : (x6_1 != a1) = false := bne_eq_false_iff_eq.mpr c6
     clear c6
     have H' := Aside0.mk H
     clear H
     go_wp2
     go_roundg k1
     case measure => have := HK1.out; omega
     case rel => exact ⟨(x5_1), (wrap64 (x6_1 + 1)), (by first | rfl | (simp; done) | (simp [*]; done)), H', ⟨by have := HK1.out; omega⟩, ⟨by (with_reducible repeat (first | apply Kd.V_alloc | apply Kd.V_drewN | apply Kd.V_drew)); exact HO_0.out⟩, ⟨by (with_reducible repeat (first | apply Kd.N_alloc | apply Kd.N_drewN | apply Kd.N_drew)); exact HO_5.out⟩, ⟨by repeat (first | (with_reducible first | exact HB.out | apply bwA | apply bwN | apply bwD) | exact HB.out)⟩⟩
    ·rw [if_neg c6] at H
     have c6b0 : (x6_1 == a1) = false := beq_eq_false_iff_ne.mpr c6
     have c6b1 : (x6_1 != a1) = true := bne_iff_ne.mpr c6
     by_cases c7 : 0 ≤ x6_1
     ·rw [if_pos c7] at H
      have c7b0 : decide (0 ≤ x6_1) = true := decide_eq_true c7
      clear c7
      by_cases c8 : x5_1.length < 5864062014805
      ·rw [if_pos c8] at H
       have LMc8 := Aside0.mk c8
       clear c8
       obtain ⟨y195, hy195⟩ : ∃ y_ : List (List Int), y_ = (x5_1 ++ [rd_L1 l0 x6_1]) := ⟨_, rfl⟩
       replace H : (spec_l12Without.l0 k1 l0 a1 y195 (wrap64 (x6_1 + 1))) = some r := by first | (rw [hy195]; with_reducible exact H) | (have H2_ := (Option.bind_some _ _).symm.trans H; rw [hy195]; with_reducible exact H2_) | (have H2_ := (Option.bind_some _ _).symm.trans H; with_reducible exact H2_) | with_reducible exact H | (rw [hy195]; exact H) | exact H
       have Ny195 := Aside0.mk hy195
       clear hy195
       have H' := Aside0.mk H
       clear H
       have p194 : 0 ≤ (x6_1 : Int) := of_decide_eq_true (by first | (with_reducible assumption) | assumption)
       have q194 : x6_1 < (l0.length : Int) := of_decide_eq_true (by first | (with_reducible assumption) | assumption)
       obtain ⟨ad194, A194_0, c194_0, e194, hx194_0, hl194_0, hi194_0⟩ := at_L1 (Kd.V_reads' HO_0.out).2.2 x6_1 p194 q194
       cases e194
       obtain ⟨ce194, hce194, hMe194, hcc194⟩ := Kd.V_get HO_0.out [] x6_1 p194 (by first | exact q194 | exact of_decide_eq_true (by first | (with_reducible assumption) | assumption) | (have e_ := (Kd.V_reads' HO_0.out).1; omega))
       obtain ⟨ua194_0, uc194_0, rfl, ul194_0, ge194_0⟩ := Kd.FK_slice_open hMe194
       have hv194_0 := hcc194 0 _ rfl
       rw [Nat.add_zero, show ((Kd.slice 3 (Kd.int .i64))).sz = 1 from rfl, Nat.mul_one] at hv194_0
       replace hv194_0 := Option.some.inj (hv194_0.symm.trans hx194_0)
       injection hv194_0 with hva_ hvn_ hvc_
       rw [hva_] at ge194_0
       rw [hvc_] at ul194_0
       have HL194_0 := Aside0.mk (show Kd.V (Kd.int .i64) 3 _ w.heap.size _ _ (rd_L1 l0 x6_1) from Kd.V_mk ul194_0 ge194_0)
       clear hva_ hvn_ hvc_ ge194_0 ul194_0
       clear hcc194 hce194
       have HR194_0 := Aside0.mk hi194_0
       have HC194_0 := Aside0.mk hl194_0
       clear hi194_0 hl194_0
       replace p194 := eq_true p194
       replace q194 := eq_true q194
       go_wp2_with (first | ((with_reducible refine gate_builtin (b := .append) (xs := #[.tmp 17, .tmp 22]) rfl ?_); at_builtin; refine Kd.N_append (Kd.slice 3 (Kd.int .i64)) (w0 := w) w.heap.size rfl (.tmp 17) (.tmp 22) 22 25 (.slice none 0 0) 24 rfl Try.underlying22 info25 rfl (by decide) (by omega) u5 x5_1 (rd_L1 l0 x6_1) [.slice A194_0 (rd_L1 l0 x6_1).length c194_0] (fun k_ => (P0_ k_ ∨ w.heap.size ≤ k_)) (fun k_ => ((fun k_ => (P0_ k_ ∨ w.heap.size ≤ k_))) k_ ∧ some k_ ≠ (u5 : Value).ownBlock) rfl rfl ?aP (fun _ hk => hk) ?aF ?aO ?aB ?aS ?aL ?_; (case aP => exact (Kd.FK_slice_mk (Kd.V_reads' (Kd.V_mono (ok' := (fun k_ => ((fun k_ => (P0_ k_ ∨ w.heap.size ≤ k_))) k_ ∧ some k_ ≠ (u5 : Value).ownBlock)) (HL194_0.out) (fun k_ hk => ⟨hk.1, hk.2⟩))).2.1 (Kd.V_F (Kd.V_mono (ok' := (fun k_ => ((fun k_ => (P0_ k_ ∨ w.heap.size ≤ k_))) k_ ∧ some k_ ≠ (u5 : Value).ownBlock)) (HL194_0.out) (fun k_ hk => ⟨hk.1, hk.2⟩))))); (case aB => exact (by repeat (first | (with_reducible first | exact HB.out | apply bwA | apply bwN | apply bwD) | exact HB.out))); (case aF => exact (fun k_ hk => (.inr (Nat.le_trans (below_size (by repeat (first | (with_reducible first | exact HB.out | apply bwA | apply bwN | apply bwD) | exact HB.out))) hk)))); (case aO => exact (by (with_reducible repeat (first | apply Kd.N_alloc | apply Kd.N_drewN | apply Kd.N_drew)); exact HO_5.out)); (case aS => exact (below_size (by repeat (first | (with_reducible first | exact HB.out | apply bwA | apply bwN | apply bwD) | exact HB.out)))); (case aL => have := LMc8.out; omega); intro v196 w9 ho hb hg hat; rw [← Ny195.out] at ho; have n0_ := Aside0.mk (Kd.V_afterv (ok := (fun k_ => (P0_ k_ ∨ w.heap.size ≤ k_))) (by (with_reducible repeat (first | apply Kd.V_alloc | apply Kd.V_drewN | apply Kd.V_drew)); exact HO_0.out) hg hat); have n1_ := Aside0.mk (Kd.V_afterv (ok := (fun k_ => (P0_ k_ ∨ w.heap.size ≤ k_))) (by (with_reducible repeat (first | apply Kd.V_alloc | apply Kd.V_drewN | apply Kd.V_drew)); exact HL194_0.out) hg hat); have n2_ := Aside0.mk (hb); have n3_ := Aside0.mk (ho); clear HO_0; clear HL194_0; clear HB; clear HO_5; have HO_0 := n0_; have HL194_0 := n1_; have HB := n2_; have HO197 := n3_; clear n0_ n1_ n2_ n3_; clear ho hb hg hat))
       go_roundg k1
       case measure => have := HK1.out; omega
       case rel => exact ⟨(y195), (wrap64 (x6_1 + 1)), (by first | rfl | (simp; done) | (simp [*]; done)), H', ⟨by have := HK1.out; omega⟩, ⟨by (with_reducible repeat (first | apply Kd.V_alloc | apply Kd.V_drewN | apply Kd.V_drew)); exact HO_0.out⟩, ⟨by (with_reducible repeat (first | apply Kd.N_alloc | apply Kd.N_drewN | apply Kd.N_drew)); exact HO197.out⟩, ⟨by repeat (first | (with_reducible first | exact HB.out | apply bwA | apply bwN | apply bwD) | exact HB.out)⟩⟩
      ·rw [if_neg c8] at H
       exact absurd H (by simp)
     ·rw [if_neg c7] at H
      exact absurd H (by simp)
   ·rw [if_neg c5] at H
    have c5b0 : decide (x6_1 < (l0.length : Int)) = false := decide_eq_false c5
    clear c5
    obtain rfl := Option.some.inj H
    (try rw [hl194_0] at c5b0)
    go_wp2
    go_ret
    exact ⟨_, by first | rfl | (simp [errW_none, errW_some] <;> rfl) | (simp [*, errW_none, errW_some] <;> rfl), by (with_reducible repeat (first | apply Kd.N_alloc | apply Kd.N_drewN | apply Kd.N_drew)); exact HO_5.out, by repeat (first | (with_reducible first | exact HB.out | apply bwA | apply bwN | apply bwD) | exact HB.out)⟩

/-! ### spec_CoreOf: function 41 -/
mutual
def spec_CoreOf.j0 : Nat → List Int → Bool → Int → List (List Int) → Option (List Int)
 | 0, _, _, _, _ => none
 | k + 1, x3, x15, x199000, x199001 => if x15 = true then (some x3) else (spec_CoreOf.l0 k x3 x199001 0 0 x199000 x199001)
def spec_CoreOf.l0 : Nat → List Int → List (List Int) → Int → Int → Int → List (List Int) → Option (List Int)
 | 0, _, _, _, _, _, _ => none
 | k + 1, x3, x4, x5, x6, x199000, x199001 => if x6 < (x199001.length : Int) then ((spec_l12Without.f k x4 x5).bind fun t204 => (if 0 ≤ (wrap64 (x199000 + 1)) then (if (wrap64 (x199000 + 1) : Int).toNat ≤ 35184372088832 then ((spec_l12Open.f k t204 (List.replicate (wrap64 (x199000 + 1) : Int).toNat 0)).bind fun t210 => (if t210 = true then (if x3.length < 17592186044416 then (spec_CoreOf.l0 k (x3 ++ [x6]) x4 (wrap64 (x5 + 1)) (wrap64 (x6 + 1)) x199000 x199001) else (none)) else (spec_CoreOf.l0 k x3 t204 x5 (wrap64 (x6 + 1)) x199000 x199001))) else (none)) else (none))) else (some x3)
end
def spec_CoreOf.f (k : Nat) (a0_0 : Int) (l0_1 : List (List Int)) : Option (List Int) := (some (([] : List Int) : List Int)).bind fun y199 => ((spec_l12Few.f k a0_0 l0_1).bind fun t202 => (if t202 = true then ((spec_l12Can.f k a0_0 l0_1 ([] : List Int)).bind fun t203 => (spec_CoreOf.j0 k y199 t203 a0_0 l0_1)) else (spec_CoreOf.j0 k y199 true a0_0 l0_1)))
theorem spec_CoreOf.mono_l : ∀ k, (∀ y0 y1 y2 y3, LeO (spec_CoreOf.j0 k y0 y1 y2 y3) (spec_CoreOf.j0 (k + 1) y0 y1 y2 y3)) ∧ (∀ y0 y1 y2 y3 y4 y5, LeO (spec_CoreOf.l0 k y0 y1 y2 y3 y4 y5) (spec_CoreOf.l0 (k + 1) y0 y1 y2 y3 y4 y5))
 | 0 => ⟨fun _ _ _ _ r h => by simp [spec_CoreOf.j0] at h, fun _ _ _ _ _ _ r h => by simp [spec_CoreOf.l0] at h⟩
 | k + 1 => by
  obtain ⟨ih0, ih1⟩ := spec_CoreOf.mono_l k
  refine ⟨?_, ?_⟩
  ·intro y0 y1 y2 y3
   unfold spec_CoreOf.j0
   repeat' first
   | (with_reducible exact ih0 _ _ _ _)
   | (with_reducible exact ih1 _ _ _ _ _ _)
   | (with_reducible exact spec_l12Can.mono _ _ _ _)
   | (with_reducible exact spec_l12Few.mono _ _ _)
   | (with_reducible exact spec_l12Open.mono _ _ _)
   | (with_reducible exact spec_l12Without.mono _ _ _)
   | (with_reducible exact LeO.refl _)
   | (with_reducible exact LeO.none _)
   | (with_reducible refine LeO.ite ?_ ?_)
   | (with_reducible refine LeO.bind ?_ (fun _ => ?_))
   | exact ih0 _ _ _ _
   | exact ih1 _ _ _ _ _ _
   | exact spec_l12Can.mono _ _ _ _
   | exact spec_l12Few.mono _ _ _
   | exact spec_l12Open.mono _ _ _
   | exact spec_l12Without.mono _ _ _
   | exact LeO.none _
   | refine LeO.ite ?_ ?_
   | refine LeO.bind ?_ (fun _ => ?_)
  ·intro y0 y1 y2 y3 y4 y5
   unfold spec_CoreOf.l0
   repeat' first
   | (with_reducible exact ih0 _ _ _ _)
   | (with_reducible exact ih1 _ _ _ _ _ _)
   | (with_reducible exact spec_l12Can.mono _ _ _ _)
   | (with_reducible exact spec_l12Few.mono _ _ _)
   | (with_reducible exact spec_l12Open.mono _ _ _)
   | (with_reducible exact spec_l12Without.mono _ _ _)
   | (with_reducible exact LeO.refl _)
   | (with_reducible exact LeO.none _)
   | (with_reducible refine LeO.ite ?_ ?_)
   | (with_reducible refine LeO.bind ?_ (fun _ => ?_))
   | exact ih0 _ _ _ _
   | exact ih1 _ _ _ _ _ _
   | exact spec_l12Can.mono _ _ _ _
   | exact spec_l12Few.mono _ _ _
   | exact spec_l12Open.mono _ _ _
   | exact spec_l12Without.mono _ _ _
   | exact LeO.none _
   | refine LeO.ite ?_ ?_
   | refine LeO.bind ?_ (fun _ => ?_)
theorem spec_CoreOf.mono : ∀ a0 a1 k, LeO (spec_CoreOf.f k a0 a1) (spec_CoreOf.f (k + 1) a0 a1) := by
 intro a0 a1 k
 obtain ⟨ih0, ih1⟩ := spec_CoreOf.mono_l k
 unfold spec_CoreOf.f
 repeat' first
   | (with_reducible exact ih0 _ _ _ _)
   | (with_reducible exact ih1 _ _ _ _ _ _)
   | (with_reducible exact spec_l12Can.mono _ _ _ _)
   | (with_reducible exact spec_l12Few.mono _ _ _)
   | (with_reducible exact spec_l12Open.mono _ _ _)
   | (with_reducible exact spec_l12Without.mono _ _ _)
   | (with_reducible exact LeO.refl _)
   | (with_reducible exact LeO.none _)
   | (with_reducible refine LeO.ite ?_ ?_)
   | (with_reducible refine LeO.bind ?_ (fun _ => ?_))
   | exact ih0 _ _ _ _
   | exact ih1 _ _ _ _ _ _
   | exact spec_l12Can.mono _ _ _ _
   | exact spec_l12Few.mono _ _ _
   | exact spec_l12Open.mono _ _ _
   | exact spec_l12Without.mono _ _ _
   | exact LeO.none _
   | refine LeO.ite ?_ ?_
   | refine LeO.bind ?_ (fun _ => ?_)
set_option maxHeartbeats 8000000 in
set_option maxRecDepth 100000 in
theorem spec_CoreOf.calls (k : Nat) (a0_0 : Int) (P0_1_ : Nat → Prop) (A0_1 : Option Addr) (c0_1 : Nat) (l0_1 : List (List Int)) (r : List Int) (w : World) (hs0_1 : Kd.V (Kd.slice 3 (Kd.int .i64)) 25 w w.heap.size (fun k_ => P0_1_ k_) (.slice A0_1 l0_1.length c0_1) l0_1) (h : spec_CoreOf.f k a0_0 l0_1 = some r) :
  Calls Try.prog 41 #[.agg #[.int .i64 a0_0, .slice A0_1 l0_1.length c0_1]] w fun e w' => ∃ v0_ : Value, e = .returned (v0_) ∧ Kd.R (Kd.int .i64) 3 w' w.heap.size (fun k_ => (w.heap.size ≤ k_)) v0_ r ∧ Below w.heap.size w w' := by
 have hu29 := Try.underlying29
 have HO0_1 := Aside0.mk (show Kd.V (Kd.slice 3 (Kd.int .i64)) 25 w w.heap.size (fun k_ => (P0_1_ k_ ∨ w.heap.size ≤ k_)) (.slice A0_1 l0_1.length c0_1) l0_1 from Kd.V_mono hs0_1 (fun k_ hk => .inl hk))
 have HB := Aside0.mk (Below.refl w.heap.size w)
 have H : ((some (([] : List Int) : List Int)).bind fun y199 => ((spec_l12Few.f k a0_0 l0_1).bind fun t202 => (if t202 = true then ((spec_l12Can.f k a0_0 l0_1 ([] : List Int)).bind fun t203 => (spec_CoreOf.j0 k y199 t203 a0_0 l0_1)) else (spec_CoreOf.j0 k y199 true a0_0 l0_1)))) = some r := h
 clear h
 obtain ⟨y199, hy199⟩ : ∃ y_ : List Int, y_ = (([] : List Int)) := ⟨_, rfl⟩
 replace H : ((spec_l12Few.f k a0_0 l0_1).bind fun t202 => (if t202 = true then ((spec_l12Can.f k a0_0 l0_1 ([] : List Int)).bind fun t203 => (spec_CoreOf.j0 k y199 t203 a0_0 l0_1)) else (spec_CoreOf.j0 k y199 true a0_0 l0_1))) = some r := by first | (rw [hy199]; with_reducible exact H) | (have H2_ := (Option.bind_some _ _).symm.trans H; rw [hy199]; with_reducible exact H2_) | (have H2_ := (Option.bind_some _ _).symm.trans H; with_reducible exact H2_) | with_reducible exact H | (rw [hy199]; exact H) | exact H
 have Ny199 := Aside0.mk hy199
 clear hy199
 have HC2 := Aside0.mk H
 clear H
 go_enter Try.func41, Try.ntmps41
 go_upto_region 2 with (first | ((with_reducible refine gate_dst (N := 1) rfl ?_); refine box_event ?hg (N := 1) ?hd (cs := #[.int .i64 a0_0, .slice A0_1 l0_1.length c0_1]) (t := 29) ?hr ?_; (case hd => rfl); (case hg => rfl); (case hr => first | (go_simp; done) | (go_simp; rfl)); intro gb198 hg w3 hbox hb; have n0_ := Aside0.mk (Kd.V_below (Kd.V_elderB (by (with_reducible repeat (first | apply Kd.V_alloc | apply Kd.V_drewN | apply Kd.V_drew)); exact HO0_1.out) gb198 (Nat.le_of_eq hg.symm)) hb); have n1_ := Aside0.mk (below_step (by repeat (first | (with_reducible first | exact HB.out | apply bwA | apply bwN | apply bwD) | exact HB.out)) hb); have n2_ := Aside0.mk (hbox); have n3_ := Aside0.mk ((by rw [hg]; exact (below_size (by repeat (first | (with_reducible first | exact HB.out | apply bwA | apply bwN | apply bwD) | exact HB.out))) : w.heap.size ≤ gb198)); have n4_ := Aside0.mk ((by rw [hg]; exact (below_size (by repeat (first | (with_reducible first | exact HB.out | apply bwA | apply bwN | apply bwD) | exact HB.out))) : w.heap.size ≤ gb198)); clear HO0_1; clear HB; have HO0_1 := n0_; have HB := n1_; have BK198 := n2_; have GW198 := n3_; have GE198 := n4_; clear n0_ n1_ n2_ n3_ n4_; clear hb hbox hg) | ((with_reducible refine gate_dst (N := 8) rfl ?_); refine Kd.R_lit (Kd.int .i64) _ 3 ?hg (N := 8) ?hd (xs := ([] : List Int)) (inner := []) (ok := fun _ => True) (okp := fun _ => True) ?hr ?hp (fun _ hk => hk) trivial (Below.refl _ _) (Nat.le_refl _) (by simp) ?_; (case hd => rfl); (case hg => rfl); (case hr => first | (go_simp; done) | (go_simp; rfl)); (case hp => exact (Reps.none _ _)); intro v200 w4 ho5 hb hg_ hnew_; clear hg_ hnew_; (first | rw [← Ny199.out] at ho5 | (simp only [Int.reduceToNat] at ho5; rw [← Ny199.out] at ho5)); have n0_ := Aside0.mk (Kd.V_elder' (by (with_reducible repeat (first | apply Kd.V_alloc | apply Kd.V_drewN | apply Kd.V_drew)); exact HO0_1.out) (Kd.R_base ho5) hb); have n1_ := Aside0.mk (Kd.R_lower (Kd.R_newM (M := fun k_ => (w.heap.size ≤ k_)) ho5 (below_size (by repeat (first | (with_reducible first | exact HB.out | apply bwA | apply bwN | apply bwD | refine below_set ?_ GE198.out) | exact HB.out))) (fun k_ h_ => h_)) (below_size (by repeat (first | (with_reducible first | exact HB.out | apply bwA | apply bwN | apply bwD | refine below_set ?_ GE198.out) | exact HB.out)))); have n2_ := Aside0.mk (blk_below (g := gb198) (o := .cells #[.int .i64 a0_0, .slice A0_1 l0_1.length c0_1] 29 (0, 0)) (by (with_reducible repeat (first | refine blk_drewN ?_ _ | refine blk_drew ?_ | refine blk_alloc ?_ _)); exact BK198.out) hb); have n3_ := Aside0.mk (below_step (by repeat (first | (with_reducible first | exact HB.out | apply bwA | apply bwN | apply bwD | refine below_set ?_ GE198.out) | exact HB.out)) hb); clear HO0_1; clear BK198; clear HB; have HO0_1 := n0_; have HO201 := n1_; have BK198 := n2_; have HB := n3_; clear n0_ n1_ n2_ n3_; clear hb ho5))
 (try simp only [Act.put, List.setIfInBounds_toArray, List.set_cons_zero, List.set_cons_succ])
 go_cut [15] (fun v15 wc => ∃ (kq : Nat) (x15_1 : Bool), v15 = .bool x15_1 ∧ Aside0 (spec_CoreOf.j0 kq y199 x15_1 a0_0 l0_1 = some r) ∧ Aside0 (kq ≤ k) ∧ Aside0 (Kd.R (Kd.int .i64) 3 wc w.heap.size (fun k_ => (w.heap.size ≤ k_)) v200 y199) ∧ Aside0 (Kd.V (Kd.slice 3 (Kd.int .i64)) 25 wc w.heap.size (fun k_ => (P0_1_ k_ ∨ w.heap.size ≤ k_) ∧ some k_ ≠ (v200 : Value).ownBlock ∧ k_ ≠ gb198) (.slice A0_1 l0_1.length c0_1) l0_1) ∧ Aside0 (wc.heap[gb198]? = some (.cells #[.int .i64 a0_0, (.slice A0_1 l0_1.length c0_1)] 29 (0, 0))) ∧ Aside0 (Below w.heap.size w wc))
 case first =>
  have H := HC2.out
  clear HC2
  replace H := Option.bind_eq_some_iff.mp H
  obtain ⟨t202, A60, H⟩ := H
  replace H : (if t202 = true then ((spec_l12Can.f k a0_0 l0_1 ([] : List Int)).bind fun t203 => (spec_CoreOf.j0 k y199 t203 a0_0 l0_1)) else (spec_CoreOf.j0 k y199 true a0_0 l0_1)) = some r := H
  have A6 := Aside0.mk A60
  clear A60
  by_cases c7 : t202 = true
  ·subst c7
   have H1 : ((spec_l12Can.f k a0_0 l0_1 ([] : List Int)).bind fun t203 => (spec_CoreOf.j0 k y199 t203 a0_0 l0_1)) = some r := by rw [if_pos rfl] at H; exact H
   clear H
   have H := H1
   clear H1
   replace H := Option.bind_eq_some_iff.mp H
   obtain ⟨t203, A80, H⟩ := H
   replace H : (spec_CoreOf.j0 k y199 t203 a0_0 l0_1) = some r := H
   have A8 := Aside0.mk A80
   clear A80
   have H' := Aside0.mk H
   clear H
   have hcz9_0 : w4.cell? ⟨gb198, 0, none⟩ = some (.int .i64 a0_0) := (blk_cell BK198.out 0).trans rfl
   have hcz9_1 : w4.cell? ⟨gb198, 1, none⟩ = some (.slice A0_1 l0_1.length c0_1) := (blk_cell BK198.out 1).trans rfl
   have hfz9_0 := blk_frozen BK198.out 0
   have hfz9_1 := blk_frozen BK198.out 1
   go_wp2_with (first | ((with_reducible refine gate_callee (f := 68) rfl ?_); refine goesL_ (some 10) rfl rfl Try.func68 (by kernel_rfl) rfl #[.agg #[.int .i64 a0_0, .slice A0_1 l0_1.length c0_1]] rfl (by (try simp only [List.map_toArray, List.map_cons, List.map_nil]); first | done | rfl | (simp only [List.length_drop, List.length_take]; rfl)) ?_; (with_reducible refine (spec_l12Few.calls k a0_0 _ _ l0_1 true _ ?side1 ?side2 A6.out).mono ?_); (case side1 => repeat (first | exact (Kd.V_reads' HO0_1.out).2.2 | (with_reducible refine Kd.C_alloc ?_ _) | (with_reducible refine Kd.C_drewN ?_ _) | (with_reducible refine Kd.C_drew ?_))); (case side2 => exact (Kd.V_reads' HO0_1.out).2.1); rintro e w10 ⟨rfl, hb⟩; refine ⟨_, rfl, ?_⟩; have n0_ := Aside0.mk (Kd.V_below (by (with_reducible repeat (first | apply Kd.V_alloc | apply Kd.V_drewN | apply Kd.V_drew)); exact HO0_1.out) hb); have n1_ := Aside0.mk (Kd.R_below (by (with_reducible repeat (first | apply Kd.R_alloc | apply Kd.R_drewN | apply Kd.R_drew)); exact HO201.out) hb); have n2_ := Aside0.mk (blk_below (g := gb198) (o := .cells #[.int .i64 a0_0, .slice A0_1 l0_1.length c0_1] 29 (0, 0)) (by (with_reducible repeat (first | refine blk_drewN ?_ _ | refine blk_drew ?_ | refine blk_alloc ?_ _)); exact BK198.out) hb); have n3_ := Aside0.mk (below_step (by repeat (first | (with_reducible first | exact HB.out | apply bwA | apply bwN | apply bwD | refine below_set ?_ GE198.out) | exact HB.out)) hb); clear HO0_1; clear HO201; clear BK198; clear HB; have HO0_1 := n0_; have HO201 := n1_; have BK198 := n2_; have HB := n3_; clear n0_ n1_ n2_ n3_; (try clear hb); (try clear hb2); (try clear hk); (try clear hi); have hcz11_0 : w10.cell? ⟨gb198, 0, none⟩ = some (.int .i64 a0_0) := (blk_cell BK198.out 0).trans rfl; have hcz11_1 : w10.cell? ⟨gb198, 1, none⟩ = some (.slice A0_1 l0_1.length c0_1) := (blk_cell BK198.out 1).trans rfl; have hfz11_0 := blk_frozen BK198.out 0; have hfz11_1 := blk_frozen BK198.out 1) | (go_at_call 69; (refine (spec_l12Can.calls k a0_0 _ _ l0_1 _ _ ([] : List Int) t203 _ ?side1 ?side2 ?side3 ?side4 A8.out).mono ?_); (case side1 => repeat (first | exact (Kd.V_reads' HO0_1.out).2.2 | (with_reducible refine Kd.C_alloc ?_ _) | (with_reducible refine Kd.C_drewN ?_ _) | (with_reducible refine Kd.C_drew ?_))); (case side2 => exact (Kd.V_reads' HO0_1.out).2.1); (case side3 => exact Kd.C_nil _ _); (case side4 => exact Nat.le_refl _); rintro e w12 ⟨rfl, hb⟩; have n0_ := Aside0.mk (Kd.V_below (by (with_reducible repeat (first | apply Kd.V_alloc | apply Kd.V_drewN | apply Kd.V_drew)); exact HO0_1.out) hb); have n1_ := Aside0.mk (Kd.R_below (by (with_reducible repeat (first | apply Kd.R_alloc | apply Kd.R_drewN | apply Kd.R_drew)); exact HO201.out) hb); have n2_ := Aside0.mk (blk_below (g := gb198) (o := .cells #[.int .i64 a0_0, .slice A0_1 l0_1.length c0_1] 29 (0, 0)) (by (with_reducible repeat (first | refine blk_drewN ?_ _ | refine blk_drew ?_ | refine blk_alloc ?_ _)); exact BK198.out) hb); have n3_ := Aside0.mk (below_step (by repeat (first | (with_reducible first | exact HB.out | apply bwA | apply bwN | apply bwD | refine below_set ?_ GE198.out) | exact HB.out)) hb); clear HO0_1; clear HO201; clear BK198; clear HB; have HO0_1 := n0_; have HO201 := n1_; have BK198 := n2_; have HB := n3_; clear n0_ n1_ n2_ n3_; (try clear hb); (try clear hb2); (try clear hk); (try clear hi)))
   go_meet
   case rel => exact ⟨_, (t203), (by first | rfl | (simp; done) | (simp [*]; done)), H', ⟨by first | omega | exact Nat.le_refl _⟩, ⟨by (with_reducible repeat (first | apply Kd.R_alloc | apply Kd.R_drewN | apply Kd.R_drew)); exact Kd.R_mono HO201.out (fun _ hk => hk.1)⟩, ⟨by (with_reducible repeat (first | apply Kd.V_alloc | apply Kd.V_drewN | apply Kd.V_drew)); exact Kd.V_mono HO0_1.out (fun _ hk => ⟨hk.1.1, ⟨hk.2, hk.1.2⟩⟩)⟩, ⟨by (with_reducible repeat (first | refine blk_drewN ?_ _ | refine blk_drew ?_ | refine blk_alloc ?_ _)); exact BK198.out⟩, ⟨by repeat (first | (with_reducible first | exact HB.out | apply bwA | apply bwN | apply bwD | refine below_set ?_ GE198.out) | exact HB.out)⟩⟩
  ·replace c7 := Bool.eq_false_iff.mpr c7
   subst c7
   have H1 : (spec_CoreOf.j0 k y199 true a0_0 l0_1) = some r := by rw [if_neg (show ¬ (false = true) by decide)] at H; exact H
   clear H
   have H := H1
   clear H1
   have H' := Aside0.mk H
   clear H
   have hcz13_0 : w4.cell? ⟨gb198, 0, none⟩ = some (.int .i64 a0_0) := (blk_cell BK198.out 0).trans rfl
   have hcz13_1 : w4.cell? ⟨gb198, 1, none⟩ = some (.slice A0_1 l0_1.length c0_1) := (blk_cell BK198.out 1).trans rfl
   have hfz13_0 := blk_frozen BK198.out 0
   have hfz13_1 := blk_frozen BK198.out 1
   go_wp2_with (first | ((with_reducible refine gate_callee (f := 68) rfl ?_); refine goesL_ (some 10) rfl rfl Try.func68 (by kernel_rfl) rfl #[.agg #[.int .i64 a0_0, .slice A0_1 l0_1.length c0_1]] rfl (by (try simp only [List.map_toArray, List.map_cons, List.map_nil]); first | done | rfl | (simp only [List.length_drop, List.length_take]; rfl)) ?_; (with_reducible refine (spec_l12Few.calls k a0_0 _ _ l0_1 false _ ?side1 ?side2 A6.out).mono ?_); (case side1 => repeat (first | exact (Kd.V_reads' HO0_1.out).2.2 | (with_reducible refine Kd.C_alloc ?_ _) | (with_reducible refine Kd.C_drewN ?_ _) | (with_reducible refine Kd.C_drew ?_))); (case side2 => exact (Kd.V_reads' HO0_1.out).2.1); rintro e w14 ⟨rfl, hb⟩; refine ⟨_, rfl, ?_⟩; have n0_ := Aside0.mk (Kd.V_below (by (with_reducible repeat (first | apply Kd.V_alloc | apply Kd.V_drewN | apply Kd.V_drew)); exact HO0_1.out) hb); have n1_ := Aside0.mk (Kd.R_below (by (with_reducible repeat (first | apply Kd.R_alloc | apply Kd.R_drewN | apply Kd.R_drew)); exact HO201.out) hb); have n2_ := Aside0.mk (blk_below (g := gb198) (o := .cells #[.int .i64 a0_0, .slice A0_1 l0_1.length c0_1] 29 (0, 0)) (by (with_reducible repeat (first | refine blk_drewN ?_ _ | refine blk_drew ?_ | refine blk_alloc ?_ _)); exact BK198.out) hb); have n3_ := Aside0.mk (below_step (by repeat (first | (with_reducible first | exact HB.out | apply bwA | apply bwN | apply bwD | refine below_set ?_ GE198.out) | exact HB.out)) hb); clear HO0_1; clear HO201; clear BK198; clear HB; have HO0_1 := n0_; have HO201 := n1_; have BK198 := n2_; have HB := n3_; clear n0_ n1_ n2_ n3_; (try clear hb); (try clear hb2); (try clear hk); (try clear hi)))
   go_meet
   case rel => exact ⟨_, (true), (by first | rfl | (simp; done) | (simp [*]; done)), H', ⟨by first | omega | exact Nat.le_refl _⟩, ⟨by (with_reducible repeat (first | apply Kd.R_alloc | apply Kd.R_drewN | apply Kd.R_drew)); exact Kd.R_mono HO201.out (fun _ hk => hk.1)⟩, ⟨by (with_reducible repeat (first | apply Kd.V_alloc | apply Kd.V_drewN | apply Kd.V_drew)); exact Kd.V_mono HO0_1.out (fun _ hk => ⟨hk.1.1, ⟨hk.2, hk.1.2⟩⟩)⟩, ⟨by (with_reducible repeat (first | refine blk_drewN ?_ _ | refine blk_drew ?_ | refine blk_alloc ?_ _)); exact BK198.out⟩, ⟨by repeat (first | (with_reducible first | exact HB.out | apply bwA | apply bwN | apply bwD | refine below_set ?_ GE198.out) | exact HB.out)⟩⟩
 case rest =>
  clear HC2
  try clear p2
  try clear c4
  try clear c6
  try clear c7
  try clear hcz11_0
  try clear hcz11_1
  try clear hcz13_0
  try clear hcz13_1
  try clear hcz9_0
  try clear hcz9_1
  try clear hfz11_0
  try clear hfz11_1
  try clear hfz13_0
  try clear hfz13_1
  try clear hfz9_0
  try clear hfz9_1
  obtain ⟨kq, x15_1, rfl, HA, HJ1, HO_3, HO_199001, BK198, HB⟩ := hcut
  cases kq with
  | zero => exact absurd HA.out (by simp [spec_CoreOf.j0])
  | succ kj1 =>
   have H := HA.out
   clear HA
   simp only [spec_CoreOf.j0] at H
   by_cases c15 : x15_1 = true
   ·subst c15
    have H1 : (some y199) = some r := by rw [if_pos rfl] at H; exact H
    clear H
    have H := H1
    clear H1
    obtain rfl := Option.some.inj H
    go_wp2
    go_ret
    exact ⟨_, by first | rfl | (simp [errW_none, errW_some] <;> rfl) | (simp [*, errW_none, errW_some] <;> rfl), by (with_reducible repeat (first | apply Kd.R_alloc | apply Kd.R_drewN | apply Kd.R_drew)); exact HO_3.out, by repeat (first | (with_reducible first | exact HB.out | apply bwA | apply bwN | apply bwD | refine below_set ?_ GE198.out) | exact HB.out)⟩
   ·replace c15 := Bool.eq_false_iff.mpr c15
    subst c15
    have H1 : (spec_CoreOf.l0 kj1 y199 l0_1 0 0 a0_0 l0_1) = some r := by rw [if_neg (show ¬ (false = true) by decide)] at H; exact H
    clear H
    have H := H1
    clear H1
    have H' := Aside0.mk H
    clear H
    have hcz16_0 : wc.cell? ⟨gb198, 0, none⟩ = some (.int .i64 a0_0) := (blk_cell BK198.out 0).trans rfl
    have hcz16_1 : wc.cell? ⟨gb198, 1, none⟩ = some (.slice A0_1 l0_1.length c0_1) := (blk_cell BK198.out 1).trans rfl
    have hfz16_0 := blk_frozen BK198.out 0
    have hfz16_1 := blk_frozen BK198.out 1
    go_wp2
    go_loopg [3, 4, 5, 6] kj1 (fun kq v3 v4 v5 v6 w' => ∃ (x3_2 : List Int) (x4_2 : List (List Int)) (x5_2 : Int) (x6_2 : Int), v5 = .int .i64 x5_2 ∧ v6 = .int .i64 x6_2 ∧ Aside0 (spec_CoreOf.l0 kq x3_2 x4_2 x5_2 x6_2 a0_0 l0_1 = some r) ∧ Aside0 (kq ≤ kj1) ∧ Aside0 (Kd.R (Kd.int .i64) 3 w' w.heap.size (fun k_ => (w.heap.size ≤ k_)) v3 x3_2) ∧ Aside0 (Kd.V (Kd.slice 3 (Kd.int .i64)) 25 w' w.heap.size (fun k_ => (P0_1_ k_ ∨ w.heap.size ≤ k_) ∧ some k_ ≠ (v3 : Value).ownBlock ∧ k_ ≠ gb198) v4 x4_2) ∧ Aside0 (Kd.V (Kd.slice 3 (Kd.int .i64)) 25 w' w.heap.size (fun k_ => (P0_1_ k_ ∨ w.heap.size ≤ k_) ∧ some k_ ≠ (v3 : Value).ownBlock ∧ k_ ≠ gb198) (.slice A0_1 l0_1.length c0_1) l0_1) ∧ Aside0 (w'.heap[gb198]? = some (.cells #[.int .i64 a0_0, (.slice A0_1 l0_1.length c0_1)] 29 (0, 0))) ∧ Aside0 (Below w.heap.size w w'))
    case atStart => exact ⟨(y199), (l0_1), (0), (0), (by first | rfl | (simp; done) | (simp [*]; done)), (by first | rfl | (simp; done) | (simp [*]; done)), H', ⟨Nat.le_refl _⟩, ⟨by (with_reducible repeat (first | apply Kd.R_alloc | apply Kd.R_drewN | apply Kd.R_drew)); exact HO_3.out⟩, ⟨by (with_reducible repeat (first | apply Kd.V_alloc | apply Kd.V_drewN | apply Kd.V_drew)); exact HO_199001.out⟩, ⟨by (with_reducible repeat (first | apply Kd.V_alloc | apply Kd.V_drewN | apply Kd.V_drew)); exact HO_199001.out⟩, ⟨by (with_reducible repeat (first | refine blk_drewN ?_ _ | refine blk_drew ?_ | refine blk_alloc ?_ _)); exact BK198.out⟩, ⟨by repeat (first | (with_reducible first | exact HB.out | apply bwA | apply bwN | apply bwD | refine below_set ?_ GE198.out) | exact HB.out)⟩⟩
    case round =>
     clear H'
     try clear c1
     try clear p2
     try clear c4
     try clear c6
     try clear c7
     try clear c15
     try clear hcz11_0
     try clear hcz11_1
     try clear hcz13_0
     try clear hcz13_1
     try clear hcz16_0
     try clear hcz16_1
     try clear hcz9_0
     try clear hcz9_1
     try clear hfz11_0
     try clear hfz11_1
     try clear hfz13_0
     try clear hfz13_1
     try clear hfz16_0
     try clear hfz16_1
     try clear hfz9_0
     try clear hfz9_1
     try clear p2
     obtain ⟨x3_2, x4_2, x5_2, x6_2, rfl, rfl, HA, HK2, HO_3, HO_4, HO_199001, BK198, HB⟩ := hrel
     cases gk with
     | zero => exact absurd HA.out (by simp [spec_CoreOf.l0])
     | succ k2 =>
      have H := HA.out
      clear HA
      simp only [spec_CoreOf.l0] at H
      by_cases c17 : x6_2 < (l0_1.length : Int)
      ·rw [if_pos c17] at H
       have c17b0 : decide (x6_2 < (l0_1.length : Int)) = true := decide_eq_true c17
       clear c17
       replace H := Option.bind_eq_some_iff.mp H
       obtain ⟨t204, A180, H⟩ := H
       replace H : (if 0 ≤ (wrap64 (a0_0 + 1)) then (if (wrap64 (a0_0 + 1) : Int).toNat ≤ 35184372088832 then ((spec_l12Open.f k2 t204 (List.replicate (wrap64 (a0_0 + 1) : Int).toNat 0)).bind fun t210 => (if t210 = true then (if x3_2.length < 17592186044416 then (spec_CoreOf.l0 k2 (x3_2 ++ [x6_2]) x4_2 (wrap64 (x5_2 + 1)) (wrap64 (x6_2 + 1)) a0_0 l0_1) else (none)) else (spec_CoreOf.l0 k2 x3_2 t204 x5_2 (wrap64 (x6_2 + 1)) a0_0 l0_1))) else (none)) else (none)) = some r := H
       have A18 := Aside0.mk A180
       clear A180
       obtain ⟨ji19, hji19⟩ : ∃ j_ : Int, (wrap64 (a0_0 + 1)) = j_ := ⟨_, rfl⟩
       replace H : (if 0 ≤ (ji19) then (if (ji19 : Int).toNat ≤ 35184372088832 then ((spec_l12Open.f k2 t204 (List.replicate (ji19 : Int).toNat 0)).bind fun t210 => (if t210 = true then (if x3_2.length < 17592186044416 then (spec_CoreOf.l0 k2 (x3_2 ++ [x6_2]) x4_2 (wrap64 (x5_2 + 1)) (wrap64 (x6_2 + 1)) a0_0 l0_1) else (none)) else (spec_CoreOf.l0 k2 x3_2 t204 x5_2 (wrap64 (x6_2 + 1)) a0_0 l0_1))) else (none)) else (none)) = some r := by first | (rw [hji19] at H; exact H) | (simp only [hji19] at H ⊢; exact H)
       (try rw [hji19] at A18)
       have hji19w : (IntKind.i64.wrap (a0_0 + 1)) = ji19 := (i64_w _).trans hji19
       by_cases c20 : 0 ≤ (ji19)
       ·rw [if_pos c20] at H
        have c20b0 := eq_true c20
        have c20b1 : decide (0 ≤ (ji19)) = true := decide_eq_true c20
        clear c20
        by_cases c21 : (ji19 : Int).toNat ≤ 35184372088832
        ·rw [if_pos c21] at H
         have c21b0 := eq_true c21
         have c21b1 : decide ((ji19 : Int).toNat ≤ 35184372088832) = true := decide_eq_true c21
         clear c21
         obtain ⟨y207, hy207⟩ : ∃ y_ : List Int, y_ = (List.replicate (ji19 : Int).toNat 0) := ⟨_, rfl⟩
         replace H : ((spec_l12Open.f k2 t204 y207).bind fun t210 => (if t210 = true then (if x3_2.length < 17592186044416 then (spec_CoreOf.l0 k2 (x3_2 ++ [x6_2]) x4_2 (wrap64 (x5_2 + 1)) (wrap64 (x6_2 + 1)) a0_0 l0_1) else (none)) else (spec_CoreOf.l0 k2 x3_2 t204 x5_2 (wrap64 (x6_2 + 1)) a0_0 l0_1))) = some r := by first | (rw [hy207]; with_reducible exact H) | (have H2_ := (Option.bind_some _ _).symm.trans H; rw [hy207]; with_reducible exact H2_) | (have H2_ := (Option.bind_some _ _).symm.trans H; with_reducible exact H2_) | with_reducible exact H | (rw [hy207]; exact H) | exact H
         have Ny207 := Aside0.mk hy207
         clear hy207
         replace H := Option.bind_eq_some_iff.mp H
         obtain ⟨t210, A220, H⟩ := H
         replace H : (if t210 = true then (if x3_2.length < 17592186044416 then (spec_CoreOf.l0 k2 (x3_2 ++ [x6_2]) x4_2 (wrap64 (x5_2 + 1)) (wrap64 (x6_2 + 1)) a0_0 l0_1) else (none)) else (spec_CoreOf.l0 k2 x3_2 t204 x5_2 (wrap64 (x6_2 + 1)) a0_0 l0_1)) = some r := H
         have A22 := Aside0.mk A220
         clear A220
         by_cases c23 : t210 = true
         ·subst c23
          have H1 : (if x3_2.length < 17592186044416 then (spec_CoreOf.l0 k2 (x3_2 ++ [x6_2]) x4_2 (wrap64 (x5_2 + 1)) (wrap64 (x6_2 + 1)) a0_0 l0_1) else (none)) = some r := by rw [if_pos rfl] at H; exact H
          clear H
          have H := H1
          clear H1
          by_cases c24 : x3_2.length < 17592186044416
          ·rw [if_pos c24] at H
           have LMc24 := Aside0.mk c24
           clear c24
           obtain ⟨y211, hy211⟩ : ∃ y_ : List Int, y_ = (x3_2 ++ [x6_2]) := ⟨_, rfl⟩
           replace H : (spec_CoreOf.l0 k2 y211 x4_2 (wrap64 (x5_2 + 1)) (wrap64 (x6_2 + 1)) a0_0 l0_1) = some r := by first | (rw [hy211]; with_reducible exact H) | (have H2_ := (Option.bind_some _ _).symm.trans H; rw [hy211]; with_reducible exact H2_) | (have H2_ := (Option.bind_some _ _).symm.trans H; with_reducible exact H2_) | with_reducible exact H | (rw [hy211]; exact H) | exact H
           have Ny211 := Aside0.mk hy211
           clear hy211
           have H' := Aside0.mk H
           clear H
           have hcz25_0 : wr.cell? ⟨gb198, 0, none⟩ = some (.int .i64 a0_0) := (blk_cell BK198.out 0).trans rfl
           have hcz25_1 : wr.cell? ⟨gb198, 1, none⟩ = some (.slice A0_1 l0_1.length c0_1) := (blk_cell BK198.out 1).trans rfl
           have hfz25_0 := blk_frozen BK198.out 0
           have hfz25_1 := blk_frozen BK198.out 1
           obtain ⟨Ao26, co26, eo26⟩ := Kd.V_slice HO_4.out
           subst eo26
           go_wp2_with (first | ((with_reducible refine gate_callee (f := 83) rfl ?_); refine goesL_ (some 28) rfl rfl Try.func83 (by kernel_rfl) rfl #[.slice Ao26 x4_2.length co26, .int .i64 x5_2] rfl (by (try simp only [List.map_toArray, List.map_cons, List.map_nil]); first | done | rfl | (simp only [List.length_drop, List.length_take]; rfl)) ?_; (with_reducible refine (spec_l12Without.calls k2 (fun k_ => ((P0_1_ k_ ∨ w.heap.size ≤ k_) ∧ (some k_ ≠ (u3 : Value).ownBlock ∧ k_ ≠ gb198))) _ _ x4_2 x5_2 t204 _ ?side1 A18.out).mono ?_); (case side1 => exact HO_4.out); rintro e w27 ⟨v205, rfl, ho0, hb⟩; refine ⟨_, rfl, ?_⟩; have n0_ := Aside0.mk (Kd.R_below (by (with_reducible repeat (first | apply Kd.R_alloc | apply Kd.R_drewN | apply Kd.R_drew)); exact HO_3.out) hb); have n1_ := Aside0.mk (Kd.V_elder' (by (with_reducible repeat (first | apply Kd.V_alloc | apply Kd.V_drewN | apply Kd.V_drew)); exact HO_4.out) (Kd.N_base ho0) hb); have n2_ := Aside0.mk (Kd.V_elder' (by (with_reducible repeat (first | apply Kd.V_alloc | apply Kd.V_drewN | apply Kd.V_drew)); exact HO_199001.out) (Kd.N_base ho0) hb); have n3_ := Aside0.mk (Kd.N_lower (Kd.N_mono (ok' := fun k_ => (P0_1_ k_ ∨ w.heap.size ≤ k_) ∧ some k_ ≠ (u3 : Value).ownBlock ∧ k_ ≠ gb198) ho0 (fun k_ hk_ => ⟨Or.elim hk_ (fun hs_ => hs_.1) (fun hn_ => (.inr (Nat.le_trans (below_size (by repeat (first | (with_reducible first | exact HB.out | apply bwA | apply bwN | apply bwD | refine below_set ?_ GE198.out) | exact HB.out))) hn_))), Or.elim hk_ (fun hs_ => hs_.2.1) (fun hn_ => (Kd.fresh' (Kd.R_lt (by (with_reducible repeat (first | apply Kd.R_alloc | apply Kd.R_drewN | apply Kd.R_drew)); exact HO_3.out)) k_ hn_)), Or.elim hk_ (fun hs_ => hs_.2.2) (fun hn_ => (Kd.freshB (g := gb198) (o := .cells #[.int .i64 a0_0, .slice A0_1 l0_1.length c0_1] 29 (0, 0)) (by (with_reducible repeat (first | refine blk_drewN ?_ _ | refine blk_drew ?_ | refine blk_alloc ?_ _)); exact BK198.out) k_ hn_))⟩)) (below_size (by repeat (first | (with_reducible first | exact HB.out | apply bwA | apply bwN | apply bwD | refine below_set ?_ GE198.out) | exact HB.out)))); have n4_ := Aside0.mk (blk_below (g := gb198) (o := .cells #[.int .i64 a0_0, .slice A0_1 l0_1.length c0_1] 29 (0, 0)) (by (with_reducible repeat (first | refine blk_drewN ?_ _ | refine blk_drew ?_ | refine blk_alloc ?_ _)); exact BK198.out) hb); have n5_ := Aside0.mk (below_step (by repeat (first | (with_reducible first | exact HB.out | apply bwA | apply bwN | apply bwD | refine below_set ?_ GE198.out) | exact HB.out)) hb); clear HO_3; clear HO_4; clear HO_199001; clear BK198; clear HB; have HO_3 := n0_; have HO_4 := n1_; have HO_199001 := n2_; have HO206 := n3_; have BK198 := n4_; have HB := n5_; clear n0_ n1_ n2_ n3_ n4_ n5_; (try clear hb); (try clear hb2); (try clear hk); (try clear hi); (try clear ho0); have hcz28_0 : w27.cell? ⟨gb198, 0, none⟩ = some (.int .i64 a0_0) := (blk_cell BK198.out 0).trans rfl; have hcz28_1 : w27.cell? ⟨gb198, 1, none⟩ = some (.slice A0_1 l0_1.length c0_1) := (blk_cell BK198.out 1).trans rfl; have hfz28_0 := blk_frozen BK198.out 0; have hfz28_1 := blk_frozen BK198.out 1) | ((with_reducible refine gate_dst (N := 33) rfl ?_); refine Kd.R_make (Kd.int .i64) _ 3 rfl (N := 33) rfl 25 _ _ rfl ji19 rfl rfl Try.underlying25 (.int .i64 0) 8 info3 rfl (by decide) (by omega) 0 (ok := fun _ => True) (okp := fun _ => True) rfl (fun _ hk => hk) trivial (of_decide_eq_true (by first | (with_reducible assumption) | assumption)) (Nat.le_trans (Nat.mul_le_mul_right _ (of_decide_eq_true (by first | (with_reducible assumption) | assumption) : ji19.toNat ≤ 35184372088832)) (by omega)) (Below.refl _ _) (Nat.le_refl _) ?_; intro v208 w29 ho30 hb hg_ hnew_; clear hg_ hnew_; (first | rw [← Ny207.out] at ho30 | (simp only [Int.reduceToNat] at ho30; rw [← Ny207.out] at ho30)); have n0_ := Aside0.mk (Kd.R_elder' (by (with_reducible repeat (first | apply Kd.R_alloc | apply Kd.R_drewN | apply Kd.R_drew)); exact HO_3.out) (Kd.R_base ho30) hb); have n1_ := Aside0.mk (Kd.V_elder' (by (with_reducible repeat (first | apply Kd.V_alloc | apply Kd.V_drewN | apply Kd.V_drew)); exact HO_4.out) (Kd.R_base ho30) hb); have n2_ := Aside0.mk (Kd.V_elder' (by (with_reducible repeat (first | apply Kd.V_alloc | apply Kd.V_drewN | apply Kd.V_drew)); exact HO_199001.out) (Kd.R_base ho30) hb); have n3_ := Aside0.mk (Kd.N_elder' (by (with_reducible repeat (first | apply Kd.N_alloc | apply Kd.N_drewN | apply Kd.N_drew)); exact HO206.out) (Kd.R_base ho30) hb); have n4_ := Aside0.mk (Kd.R_lower (Kd.R_new' (Kd.R_newM (M := fun k_ => (w.heap.size ≤ k_)) ho30 (below_size (by repeat (first | (with_reducible first | exact HB.out | apply bwA | apply bwN | apply bwD | refine below_set ?_ GE198.out) | exact HB.out))) (fun k_ h_ => h_)) (Kd.R_lt (by (with_reducible repeat (first | apply Kd.R_alloc | apply Kd.R_drewN | apply Kd.R_drew)); exact HO_3.out))) (below_size (by repeat (first | (with_reducible first | exact HB.out | apply bwA | apply bwN | apply bwD | refine below_set ?_ GE198.out) | exact HB.out)))); have n5_ := Aside0.mk (blk_below (g := gb198) (o := .cells #[.int .i64 a0_0, .slice A0_1 l0_1.length c0_1] 29 (0, 0)) (by (with_reducible repeat (first | refine blk_drewN ?_ _ | refine blk_drew ?_ | refine blk_alloc ?_ _)); exact BK198.out) hb); have n6_ := Aside0.mk (below_step (by repeat (first | (with_reducible first | exact HB.out | apply bwA | apply bwN | apply bwD | refine below_set ?_ GE198.out) | exact HB.out)) hb); clear HO_3; clear HO_4; clear HO_199001; clear HO206; clear BK198; clear HB; have HO_3 := n0_; have HO_4 := n1_; have HO_199001 := n2_; have HO206 := n3_; have HO209 := n4_; have BK198 := n5_; have HB := n6_; clear n0_ n1_ n2_ n3_ n4_ n5_ n6_; clear hb ho30; obtain ⟨Ao31, co31, eo31⟩ := Kd.N_slice HO206.out; subst eo31; obtain ⟨Ao32, co32, eo32⟩ := Kd.R_slice HO209.out; subst eo32) | ((with_reducible refine gate_callee (f := 84) rfl ?_); refine goesL_ (some 34) rfl rfl Try.func84 (by kernel_rfl) rfl #[.slice Ao31 t204.length co31, .slice Ao32 y207.length co32] rfl (by (try simp only [List.map_toArray, List.map_cons, List.map_nil]); first | done | rfl | (simp only [List.length_drop, List.length_take]; rfl)) ?_; (with_reducible refine (spec_l12Open.calls k2 _ _ t204 _ _ y207 true _ ?side1 ?side2 ?side3 ?side4 A22.out).mono ?_); (case side1 => repeat (first | exact (Kd.N_reads' HO206.out).2.2 | (with_reducible refine Kd.C_alloc ?_ _) | (with_reducible refine Kd.C_drewN ?_ _) | (with_reducible refine Kd.C_drew ?_))); (case side2 => exact (Kd.N_reads' HO206.out).2.1); (case side3 => repeat (first | exact (Kd.R_reads' HO209.out).2.2 | (with_reducible refine Kd.C_alloc ?_ _) | (with_reducible refine Kd.C_drewN ?_ _) | (with_reducible refine Kd.C_drew ?_))); (case side4 => exact (Kd.R_reads' HO209.out).2.1); rintro e w33 ⟨rfl, hb⟩; refine ⟨_, rfl, ?_⟩; have n0_ := Aside0.mk (Kd.R_below (by (with_reducible repeat (first | apply Kd.R_alloc | apply Kd.R_drewN | apply Kd.R_drew)); exact HO_3.out) hb); have n1_ := Aside0.mk (Kd.V_below (by (with_reducible repeat (first | apply Kd.V_alloc | apply Kd.V_drewN | apply Kd.V_drew)); exact HO_4.out) hb); have n2_ := Aside0.mk (Kd.V_below (by (with_reducible repeat (first | apply Kd.V_alloc | apply Kd.V_drewN | apply Kd.V_drew)); exact HO_199001.out) hb); have n3_ := Aside0.mk (Kd.N_below (by (with_reducible repeat (first | apply Kd.N_alloc | apply Kd.N_drewN | apply Kd.N_drew)); exact HO206.out) hb); have n4_ := Aside0.mk (Kd.R_below (by (with_reducible repeat (first | apply Kd.R_alloc | apply Kd.R_drewN | apply Kd.R_drew)); exact HO209.out) hb); have n5_ := Aside0.mk (blk_below (g := gb198) (o := .cells #[.int .i64 a0_0, .slice A0_1 l0_1.length c0_1] 29 (0, 0)) (by (with_reducible repeat (first | refine blk_drewN ?_ _ | refine blk_drew ?_ | refine blk_alloc ?_ _)); exact BK198.out) hb); have n6_ := Aside0.mk (below_step (by repeat (first | (with_reducible first | exact HB.out | apply bwA | apply bwN | apply bwD | refine below_set ?_ GE198.out) | exact HB.out)) hb); clear HO_3; clear HO_4; clear HO_199001; clear HO206; clear HO209; clear BK198; clear HB; have HO_3 := n0_; have HO_4 := n1_; have HO_199001 := n2_; have HO206 := n3_; have HO209 := n4_; have BK198 := n5_; have HB := n6_; clear n0_ n1_ n2_ n3_ n4_ n5_ n6_; (try clear hb); (try clear hb2); (try clear hk); (try clear hi)) | ((with_reducible refine gate_builtin (b := .append) (xs := #[.tmp 35, .tmp 37]) rfl ?_); at_builtin; refine Kd.R_append (Kd.int .i64) (w0 := w) w.heap.size rfl (.tmp 35) (.tmp 37) 25 3 (.int .i64 0) 8 rfl Try.underlying25 info3 rfl (by decide) (by omega) u3 x3_2 x6_2 [.int .i64 x6_2] (fun k_ => (w.heap.size ≤ k_) ∧ some k_ ≠ (.slice Ao32 y207.length co32 : Value).ownBlock) (fun _ => False) rfl rfl ?aP (fun _ hk => hk.elim) ?aF ?aO ?aB ?aS ?aL ?_; (case aP => exact rfl); (case aB => exact (by repeat (first | (with_reducible first | exact HB.out | apply bwA | apply bwN | apply bwD | refine below_set ?_ GE198.out) | exact HB.out))); (case aF => exact (fun k_ hk => ⟨(Nat.le_trans (below_size (by repeat (first | (with_reducible first | exact HB.out | apply bwA | apply bwN | apply bwD | refine below_set ?_ GE198.out) | exact HB.out))) hk), Kd.fresh' (Kd.R_lt (by (with_reducible repeat (first | apply Kd.R_alloc | apply Kd.R_drewN | apply Kd.R_drew)); exact HO209.out)) k_ hk⟩)); (case aO => exact (by (with_reducible repeat (first | apply Kd.R_alloc | apply Kd.R_drewN | apply Kd.R_drew)); exact HO_3.out)); (case aS => exact (below_size (by repeat (first | (with_reducible first | exact HB.out | apply bwA | apply bwN | apply bwD | refine below_set ?_ GE198.out) | exact HB.out)))); (case aL => have := LMc24.out; omega); intro v212 w34 ho hb hg hat; rw [← Ny211.out] at ho; have n0_ := Aside0.mk (Kd.V_afterv (ok := (fun k_ => (P0_1_ k_ ∨ w.heap.size ≤ k_) ∧ some k_ ≠ (.slice Ao31 t204.length co31 : Value).ownBlock ∧ some k_ ≠ (.slice Ao32 y207.length co32 : Value).ownBlock ∧ k_ ≠ gb198)) (by (with_reducible repeat (first | apply Kd.V_alloc | apply Kd.V_drewN | apply Kd.V_drew)); exact Kd.V_mono HO_4.out (fun _ hk => ⟨⟨hk.1.1.1, ⟨hk.1.2, ⟨hk.2, hk.1.1.2.2⟩⟩⟩, hk.1.1.2.1⟩)) hg hat); have n1_ := Aside0.mk (Kd.V_afterv (ok := (fun k_ => (P0_1_ k_ ∨ w.heap.size ≤ k_) ∧ some k_ ≠ (.slice Ao31 t204.length co31 : Value).ownBlock ∧ some k_ ≠ (.slice Ao32 y207.length co32 : Value).ownBlock ∧ k_ ≠ gb198)) (by (with_reducible repeat (first | apply Kd.V_alloc | apply Kd.V_drewN | apply Kd.V_drew)); exact Kd.V_mono HO_199001.out (fun _ hk => ⟨⟨hk.1.1.1, ⟨hk.1.2, ⟨hk.2, hk.1.1.2.2⟩⟩⟩, hk.1.1.2.1⟩)) hg hat); have n2_ := Aside0.mk (blk_grown (g := gb198) (o := .cells #[.int .i64 a0_0, .slice A0_1 l0_1.length c0_1] 29 (0, 0)) (by (with_reducible repeat (first | refine blk_drewN ?_ _ | refine blk_drew ?_ | refine blk_alloc ?_ _)); exact BK198.out) hg (Kd.R_ne HO_3.out BK198.out (by decide))); have n3_ := Aside0.mk (Kd.N_afterv (ok := (fun k_ => (P0_1_ k_ ∨ w.heap.size ≤ k_) ∧ some k_ ≠ (.slice Ao32 y207.length co32 : Value).ownBlock ∧ k_ ≠ gb198)) (by (with_reducible repeat (first | apply Kd.N_alloc | apply Kd.N_drewN | apply Kd.N_drew)); exact Kd.N_mono HO206.out (fun _ hk => ⟨⟨hk.1.1, ⟨hk.2, hk.1.2.2⟩⟩, hk.1.2.1⟩)) hg hat); have n4_ := Aside0.mk (Kd.R_after (ok := (fun k_ => (w.heap.size ≤ k_))) (by (with_reducible repeat (first | apply Kd.R_alloc | apply Kd.R_drewN | apply Kd.R_drew)); exact Kd.R_mono HO209.out (fun _ hk => ⟨hk.1.1, hk.2⟩)) hg hat); have n5_ := Aside0.mk (hb); have n6_ := Aside0.mk (ho); clear HO_4; clear HO_199001; clear BK198; clear HO206; clear HO209; clear HB; clear HO_3; have HO_4 := n0_; have HO_199001 := n1_; have BK198 := n2_; have HO206 := n3_; have HO209 := n4_; have HB := n5_; have HO213 := n6_; clear n0_ n1_ n2_ n3_ n4_ n5_ n6_; clear ho hb hg hat))
           go_roundg k2
           case measure => have := HJ1.out; have := HK2.out; omega
           case rel => exact ⟨(y211), (x4_2), (wrap64 (x5_2 + 1)), (wrap64 (x6_2 + 1)), (by first | rfl | (simp; done) | (simp [*]; done)), (by first | rfl | (simp; done) | (simp [*]; done)), H', ⟨by have := HJ1.out; have := HK2.out; omega⟩, ⟨by (with_reducible repeat (first | apply Kd.R_alloc | apply Kd.R_drewN | apply Kd.R_drew)); exact Kd.R_mono HO213.out (fun _ hk => hk.1)⟩, ⟨by (with_reducible repeat (first | apply Kd.V_alloc | apply Kd.V_drewN | apply Kd.V_drew)); exact Kd.V_mono HO_4.out (fun _ hk => ⟨hk.1.1, ⟨hk.2, hk.1.2.2.2⟩⟩)⟩, ⟨by (with_reducible repeat (first | apply Kd.V_alloc | apply Kd.V_drewN | apply Kd.V_drew)); exact Kd.V_mono HO_199001.out (fun _ hk => ⟨hk.1.1, ⟨hk.2, hk.1.2.2.2⟩⟩)⟩, ⟨by (with_reducible repeat (first | refine blk_drewN ?_ _ | refine blk_drew ?_ | refine blk_alloc ?_ _)); exact BK198.out⟩, ⟨by repeat (first | (with_reducible first | exact HB.out | apply bwA | apply bwN | apply bwD | refine below_set ?_ GE198.out) | exact HB.out)⟩⟩
          ·rw [if_neg c24] at H
           exact absurd H (by simp)
         ·replace c23 := Bool.eq_false_iff.mpr c23
          subst c23
          have H1 : (spec_CoreOf.l0 k2 x3_2 t204 x5_2 (wrap64 (x6_2 + 1)) a0_0 l0_1) = some r := by rw [if_neg (show ¬ (false = true) by decide)] at H; exact H
          clear H
          have H := H1
          clear H1
          have H' := Aside0.mk H
          clear H
          have hcz35_0 : wr.cell? ⟨gb198, 0, none⟩ = some (.int .i64 a0_0) := (blk_cell BK198.out 0).trans rfl
          have hcz35_1 : wr.cell? ⟨gb198, 1, none⟩ = some (.slice A0_1 l0_1.length c0_1) := (blk_cell BK198.out 1).trans rfl
          have hfz35_0 := blk_frozen BK198.out 0
          have hfz35_1 := blk_frozen BK198.out 1
          obtain ⟨Ao36, co36, eo36⟩ := Kd.V_slice HO_4.out
          subst eo36
          go_wp2_with (first | ((with_reducible refine gate_callee (f := 83) rfl ?_); refine goesL_ (some 28) rfl rfl Try.func83 (by kernel_rfl) rfl #[.slice Ao36 x4_2.length co36, .int .i64 x5_2] rfl (by (try simp only [List.map_toArray, List.map_cons, List.map_nil]); first | done | rfl | (simp only [List.length_drop, List.length_take]; rfl)) ?_; (with_reducible refine (spec_l12Without.calls k2 (fun k_ => ((P0_1_ k_ ∨ w.heap.size ≤ k_) ∧ (some k_ ≠ (u3 : Value).ownBlock ∧ k_ ≠ gb198))) _ _ x4_2 x5_2 t204 _ ?side1 A18.out).mono ?_); (case side1 => exact HO_4.out); rintro e w37 ⟨v205, rfl, ho0, hb⟩; refine ⟨_, rfl, ?_⟩; have n0_ := Aside0.mk (Kd.R_below (by (with_reducible repeat (first | apply Kd.R_alloc | apply Kd.R_drewN | apply Kd.R_drew)); exact HO_3.out) hb); have n1_ := Aside0.mk (Kd.V_elder' (by (with_reducible repeat (first | apply Kd.V_alloc | apply Kd.V_drewN | apply Kd.V_drew)); exact HO_4.out) (Kd.N_base ho0) hb); have n2_ := Aside0.mk (Kd.V_elder' (by (with_reducible repeat (first | apply Kd.V_alloc | apply Kd.V_drewN | apply Kd.V_drew)); exact HO_199001.out) (Kd.N_base ho0) hb); have n3_ := Aside0.mk (Kd.N_lower (Kd.N_mono (ok' := fun k_ => (P0_1_ k_ ∨ w.heap.size ≤ k_) ∧ some k_ ≠ (u3 : Value).ownBlock ∧ k_ ≠ gb198) ho0 (fun k_ hk_ => ⟨Or.elim hk_ (fun hs_ => hs_.1) (fun hn_ => (.inr (Nat.le_trans (below_size (by repeat (first | (with_reducible first | exact HB.out | apply bwA | apply bwN | apply bwD | refine below_set ?_ GE198.out) | exact HB.out))) hn_))), Or.elim hk_ (fun hs_ => hs_.2.1) (fun hn_ => (Kd.fresh' (Kd.R_lt (by (with_reducible repeat (first | apply Kd.R_alloc | apply Kd.R_drewN | apply Kd.R_drew)); exact HO_3.out)) k_ hn_)), Or.elim hk_ (fun hs_ => hs_.2.2) (fun hn_ => (Kd.freshB (g := gb198) (o := .cells #[.int .i64 a0_0, .slice A0_1 l0_1.length c0_1] 29 (0, 0)) (by (with_reducible repeat (first | refine blk_drewN ?_ _ | refine blk_drew ?_ | refine blk_alloc ?_ _)); exact BK198.out) k_ hn_))⟩)) (below_size (by repeat (first | (with_reducible first | exact HB.out | apply bwA | apply bwN | apply bwD | refine below_set ?_ GE198.out) | exact HB.out)))); have n4_ := Aside0.mk (blk_below (g := gb198) (o := .cells #[.int .i64 a0_0, .slice A0_1 l0_1.length c0_1] 29 (0, 0)) (by (with_reducible repeat (first | refine blk_drewN ?_ _ | refine blk_drew ?_ | refine blk_alloc ?_ _)); exact BK198.out) hb); have n5_ := Aside0.mk (below_step (by repeat (first | (with_reducible first | exact HB.out | apply bwA | apply bwN | apply bwD | refine below_set ?_ GE198.out) | exact HB.out)) hb); clear HO_3; clear HO_4; clear HO_199001; clear BK198; clear HB; have HO_3 := n0_; have HO_4 := n1_; have HO_199001 := n2_; have HO206 := n3_; have BK198 := n4_; have HB := n5_; clear n0_ n1_ n2_ n3_ n4_ n5_; (try clear hb); (try clear hb2); (try clear hk); (try clear hi); (try clear ho0); have hcz38_0 : w37.cell? ⟨gb198, 0, none⟩ = some (.int .i64 a0_0) := (blk_cell BK198.out 0).trans rfl; have hcz38_1 : w37.cell? ⟨gb198, 1, none⟩ = some (.slice A0_1 l0_1.length c0_1) := (blk_cell BK198.out 1).trans rfl; have hfz38_0 := blk_frozen BK198.out 0; have hfz38_1 := blk_frozen BK198.out 1) | ((with_reducible refine gate_dst (N := 33) rfl ?_); refine Kd.R_make (Kd.int .i64) _ 3 rfl (N := 33) rfl 25 _ _ rfl ji19 rfl rfl Try.underlying25 (.int .i64 0) 8 info3 rfl (by decide) (by omega) 0 (ok := fun _ => True) (okp := fun _ => True) rfl (fun _ hk => hk) trivial (of_decide_eq_true (by first | (with_reducible assumption) | assumption)) (Nat.le_trans (Nat.mul_le_mul_right _ (of_decide_eq_true (by first | (with_reducible assumption) | assumption) : ji19.toNat ≤ 35184372088832)) (by omega)) (Below.refl _ _) (Nat.le_refl _) ?_; intro v208 w39 ho40 hb hg_ hnew_; clear hg_ hnew_; (first | rw [← Ny207.out] at ho40 | (simp only [Int.reduceToNat] at ho40; rw [← Ny207.out] at ho40)); have n0_ := Aside0.mk (Kd.R_elder' (by (with_reducible repeat (first | apply Kd.R_alloc | apply Kd.R_drewN | apply Kd.R_drew)); exact HO_3.out) (Kd.R_base ho40) hb); have n1_ := Aside0.mk (Kd.V_elder' (by (with_reducible repeat (first | apply Kd.V_alloc | apply Kd.V_drewN | apply Kd.V_drew)); exact HO_4.out) (Kd.R_base ho40) hb); have n2_ := Aside0.mk (Kd.V_elder' (by (with_reducible repeat (first | apply Kd.V_alloc | apply Kd.V_drewN | apply Kd.V_drew)); exact HO_199001.out) (Kd.R_base ho40) hb); have n3_ := Aside0.mk (Kd.N_elder' (by (with_reducible repeat (first | apply Kd.N_alloc | apply Kd.N_drewN | apply Kd.N_drew)); exact HO206.out) (Kd.R_base ho40) hb); have n4_ := Aside0.mk (Kd.R_lower (Kd.R_new' (Kd.R_newM (M := fun k_ => (w.heap.size ≤ k_)) ho40 (below_size (by repeat (first | (with_reducible first | exact HB.out | apply bwA | apply bwN | apply bwD | refine below_set ?_ GE198.out) | exact HB.out))) (fun k_ h_ => h_)) (Kd.R_lt (by (with_reducible repeat (first | apply Kd.R_alloc | apply Kd.R_drewN | apply Kd.R_drew)); exact HO_3.out))) (below_size (by repeat (first | (with_reducible first | exact HB.out | apply bwA | apply bwN | apply bwD | refine below_set ?_ GE198.out) | exact HB.out)))); have n5_ := Aside0.mk (blk_below (g := gb198) (o := .cells #[.int .i64 a0_0, .slice A0_1 l0_1.length c0_1] 29 (0, 0)) (by (with_reducible repeat (first | refine blk_drewN ?_ _ | refine blk_drew ?_ | refine blk_alloc ?_ _)); exact BK198.out) hb); have n6_ := Aside0.mk (below_step (by repeat (first | (with_reducible first | exact HB.out | apply bwA | apply bwN | apply bwD | refine below_set ?_ GE198.out) | exact HB.out)) hb); clear HO_3; clear HO_4; clear HO_199001; clear HO206; clear BK198; clear HB; have HO_3 := n0_; have HO_4 := n1_; have HO_199001 := n2_; have HO206 := n3_; have HO209 := n4_; have BK198 := n5_; have HB := n6_; clear n0_ n1_ n2_ n3_ n4_ n5_ n6_; clear hb ho40; obtain ⟨Ao41, co41, eo41⟩ := Kd.N_slice HO206.out; subst eo41; obtain ⟨Ao42, co42, eo42⟩ := Kd.R_slice HO209.out; subst eo42) | ((with_reducible refine gate_callee (f := 84) rfl ?_); refine goesL_ (some 34) rfl rfl Try.func84 (by kernel_rfl) rfl #[.slice Ao41 t204.length co41, .slice Ao42 y207.length co42] rfl (by (try simp only [List.map_toArray, List.map_cons, List.map_nil]); first | done | rfl | (simp only [List.length_drop, List.length_take]; rfl)) ?_; (with_reducible refine (spec_l12Open.calls k2 _ _ t204 _ _ y207 false _ ?side1 ?side2 ?side3 ?side4 A22.out).mono ?_); (case side1 => repeat (first | exact (Kd.N_reads' HO206.out).2.2 | (with_reducible refine Kd.C_alloc ?_ _) | (with_reducible refine Kd.C_drewN ?_ _) | (with_reducible refine Kd.C_drew ?_))); (case side2 => exact (Kd.N_reads' HO206.out).2.1); (case side3 => repeat (first | exact (Kd.R_reads' HO209.out).2.2 | (with_reducible refine Kd.C_alloc ?_ _) | (with_reducible refine Kd.C_drewN ?_ _) | (with_reducible refine Kd.C_drew ?_))); (case side4 => exact (Kd.R_reads' HO209.out).2.1); rintro e w43 ⟨rfl, hb⟩; refine ⟨_, rfl, ?_⟩; have n0_ := Aside0.mk (Kd.R_below (by (with_reducible repeat (first | apply Kd.R_alloc | apply Kd.R_drewN | apply Kd.R_drew)); exact HO_3.out) hb); have n1_ := Aside0.mk (Kd.V_below (by (with_reducible repeat (first | apply Kd.V_alloc | apply Kd.V_drewN | apply Kd.V_drew)); exact HO_4.out) hb); have n2_ := Aside0.mk (Kd.V_below (by (with_reducible repeat (first | apply Kd.V_alloc | apply Kd.V_drewN | apply Kd.V_drew)); exact HO_199001.out) hb); have n3_ := Aside0.mk (Kd.N_below (by (with_reducible repeat (first | apply Kd.N_alloc | apply Kd.N_drewN | apply Kd.N_drew)); exact HO206.out) hb); have n4_ := Aside0.mk (Kd.R_below (by (with_reducible repeat (first | apply Kd.R_alloc | apply Kd.R_drewN | apply Kd.R_drew)); exact HO209.out) hb); have n5_ := Aside0.mk (blk_below (g := gb198) (o := .cells #[.int .i64 a0_0, .slice A0_1 l0_1.length c0_1] 29 (0, 0)) (by (with_reducible repeat (first | refine blk_drewN ?_ _ | refine blk_drew ?_ | refine blk_alloc ?_ _)); exact BK198.out) hb); have n6_ := Aside0.mk (below_step (by repeat (first | (with_reducible first | exact HB.out | apply bwA | apply bwN | apply bwD | refine below_set ?_ GE198.out) | exact HB.out)) hb); clear HO_3; clear HO_4; clear HO_199001; clear HO206; clear HO209; clear BK198; clear HB; have HO_3 := n0_; have HO_4 := n1_; have HO_199001 := n2_; have HO206 := n3_; have HO209 := n4_; have BK198 := n5_; have HB := n6_; clear n0_ n1_ n2_ n3_ n4_ n5_ n6_; (try clear hb); (try clear hb2); (try clear hk); (try clear hi)))
          go_roundg k2
          case measure => have := HJ1.out; have := HK2.out; omega
          case rel => exact ⟨(x3_2), (t204), (x5_2), (wrap64 (x6_2 + 1)), (by first | rfl | (simp; done) | (simp [*]; done)), (by first | rfl | (simp; done) | (simp [*]; done)), H', ⟨by have := HJ1.out; have := HK2.out; omega⟩, ⟨by (with_reducible repeat (first | apply Kd.R_alloc | apply Kd.R_drewN | apply Kd.R_drew)); exact Kd.R_mono HO_3.out (fun _ hk => hk.1)⟩, ⟨Kd.N_V (by (with_reducible repeat (first | apply Kd.N_alloc | apply Kd.N_drewN | apply Kd.N_drew)); exact Kd.N_mono HO206.out (fun _ hk => ⟨hk.1.1, ⟨hk.1.2.1, hk.1.2.2⟩⟩))⟩, ⟨by (with_reducible repeat (first | apply Kd.V_alloc | apply Kd.V_drewN | apply Kd.V_drew)); exact Kd.V_mono HO_199001.out (fun _ hk => ⟨hk.1.1.1, ⟨hk.1.1.2.1, hk.1.1.2.2⟩⟩)⟩, ⟨by (with_reducible repeat (first | refine blk_drewN ?_ _ | refine blk_drew ?_ | refine blk_alloc ?_ _)); exact BK198.out⟩, ⟨by repeat (first | (with_reducible first | exact HB.out | apply bwA | apply bwN | apply bwD | refine below_set ?_ GE198.out) | exact HB.out)⟩⟩
        ·rw [if_neg c21] at H
         exact absurd H (by simp)
       ·rw [if_neg c20] at H
        exact absurd H (by simp)
      ·rw [if_neg c17] at H
       have c17b0 : decide (x6_2 < (l0_1.length : Int)) = false := decide_eq_false c17
       clear c17
       obtain rfl := Option.some.inj H
       have hcz44_0 : wr.cell? ⟨gb198, 0, none⟩ = some (.int .i64 a0_0) := (blk_cell BK198.out 0).trans rfl
       have hcz44_1 : wr.cell? ⟨gb198, 1, none⟩ = some (.slice A0_1 l0_1.length c0_1) := (blk_cell BK198.out 1).trans rfl
       have hfz44_0 := blk_frozen BK198.out 0
       have hfz44_1 := blk_frozen BK198.out 1
       go_wp2
       go_ret
       exact ⟨_, by first | rfl | (simp [errW_none, errW_some] <;> rfl) | (simp [*, errW_none, errW_some] <;> rfl), by (with_reducible repeat (first | apply Kd.R_alloc | apply Kd.R_drewN | apply Kd.R_drew)); exact HO_3.out, by repeat (first | (with_reducible first | exact HB.out | apply bwA | apply bwN | apply bwD | refine below_set ?_ GE198.out) | exact HB.out)⟩

/-! ### impl_clone_int: function 54 -/
def impl_clone_int.f (l0 : List Int) : Option (List Int) := if l0.length ≤ 35184372088832 then some l0 else none
set_option maxHeartbeats 400000 in
set_option maxRecDepth 100000 in
theorem impl_clone_int.calls (A0 : Option Addr) (c0 : Nat) (l0 : List Int) (r : List Int) (w : World) (hr0 : Kd.C (Kd.int .i64) w A0 l0.length l0) (hc0 : l0.length ≤ c0) (h : impl_clone_int.f l0 = some r) :
  Calls Try.prog 54 #[.slice A0 l0.length c0] w fun e w' => ∃ v0_ : Value, e = .returned (v0_) ∧ Kd.R (Kd.int .i64) 3 w' w.heap.size (fun _ => True) v0_ r ∧ Below w.heap.size w w' := by
 unfold impl_clone_int.f at h
 by_cases c1 : l0.length ≤ 35184372088832
 ·rw [if_pos c1] at h
  obtain rfl := Option.some.inj h
  clear h
  have HR0 := Aside0.mk hr0
  have C1 := Aside0.mk c1
  clear hr0 c1
  by_cases c2 : l0.length = 0
  ·have c2b : ((l0.length : Int) == 0) = true := by rw [beq_iff_eq]; omega
   have HL := Aside0.mk (List.eq_nil_of_length_eq_zero c2)
   clear c2
   go_enter Try.func54, Try.ntmps54
   go_wp2
   go_ret
   exact ⟨_, rfl, by rw [HL.out]; exact Kd.R_nil _ _ _ _ _, Below.refl _ _⟩
  ·have c2b : ((l0.length : Int) == 0) = false := by rw [beq_eq_false_iff_ne]; omega
   have c2c : (l0.length == 0) = false := by rw [beq_eq_false_iff_ne]; omega
   go_enter Try.func54, Try.ntmps54
   go_wp2_with (first | ((with_reducible refine gate_dst (N := 9) rfl ?_); refine Kd.R_make (Kd.int .i64) _ 3 rfl (N := 9) rfl 25 _ _ rfl (l0.length : Int) rfl rfl Try.underlying25 (.int .i64 0) 8 info3 rfl (by decide) (by omega) 0 (ok := fun _ => True) (okp := fun _ => True) rfl (fun _ hk => hk) trivial (by omega) (by have := C1.out; omega) (Below.refl _ _) (Nat.le_refl _) ?_; intro v178 w4 ho5 hb hg_ hnew_; clear hg_ hnew_; have HO := Aside0.mk ho5; have HB := Aside0.mk hb; clear hb ho5) | ((with_reducible refine gate_dst (N := 12) rfl ?_); refine Copy.R_copy (w0 := w) (xs := List.replicate (l0.length : Int).toNat 0) (ys := l0) w.heap.size 3 rfl _ _ 25 25 rfl Try.underlying25 (by kernel_rfl) rfl rfl (by simp) HO.out (Kd.C_below HR0.out HB.out) HB.out ?_; intro w5 ho5 hb; clear HB; have HO5 := Aside0.mk ho5; have HB := Aside0.mk hb; clear hb ho5))
   go_ret
   exact ⟨_, rfl, HO5.out, HB.out⟩
 ·rw [if_neg c1] at h
  exact absurd h (by simp)

/-! ### impl_in: function 60 -/
def impl_in.f (a0 : Int) (a1 : Int) (a2 : Int) : Option (Bool) := if a0 ≥ a1 then (some (decide (a0 ≤ a2))) else (some false)
set_option maxHeartbeats 8000000 in
set_option maxRecDepth 100000 in
theorem impl_in.calls (a0 : Int) (a1 : Int) (a2 : Int) (r : Bool) (w : World) (h : impl_in.f a0 a1 a2 = some r) :
  Calls Try.prog 60 #[.int .i64 a0, .int .i64 a1, .int .i64 a2] w fun e w' => e = .returned (.bool r) ∧ Drawn0 w w' := by
 have H : (if a0 ≥ a1 then (some (decide (a0 ≤ a2))) else (some false)) = some r := h
 clear h
 by_cases c4 : a0 ≥ a1
 ·rw [if_pos c4] at H
  have c4b0 : decide (a1 ≤ a0) = true := decide_eq_true c4
  clear c4
  obtain rfl := Option.some.inj H
  go_enter Try.func60, Try.ntmps60
  go_wp2
  go_ret
  exact ⟨by first | rfl | (simp; done) | (simp [*]; done), by repeat (first | exact Drawn0.refl _ | apply Drawn0.step)⟩
 ·rw [if_neg c4] at H
  have c4b0 : decide (a1 ≤ a0) = false := decide_eq_false c4
  clear c4
  obtain rfl := Option.some.inj H
  go_enter Try.func60, Try.ntmps60
  go_wp2
  go_ret
  exact ⟨by first | rfl | (simp; done) | (simp [*]; done), by repeat (first | exact Drawn0.refl _ | apply Drawn0.step)⟩

/-! ### slices_IndexFunc_int_int_98: function 98 -/
set_option maxHeartbeats 400000 in
theorem slices_IndexFunc_int_int_98.calls (g : Nat) (lb : Array Value) (eg : ∀ args w, (callFunc g args).run Try.prog w = .ok (.enter g args) w)
  (A0 : Option Addr) (c0 : Nat) (l0 : List (List Int)) (p : Int → Option Bool) (r : Int) (w : World) (hr0 : Kd.C (Kd.slice 3 (Kd.int .i64)) w A0 l0.length l0)
  (hp : ∀ (i : Int), 0 ≤ i → i < l0.length → ∀ b, p i = some b → ∀ W, Below w.heap.size w W → ∀ A c, Kd.C (Kd.int .i64) W A (rd_L1 l0 i).length (rd_L1 l0 i) → (rd_L1 l0 i).length ≤ c → Calls Try.prog g (#[.slice A (rd_L1 l0 i).length c] ++ lb) W fun e w' => e = .returned (.bool b) ∧ Below W.heap.size W w')
  (h : Copy.idxO p l0.length 0 = some r) :
  Calls Try.prog 98 #[.slice A0 l0.length c0, .func (.func g) #[] lb] w fun e w' => e = .returned (.int .i64 r) ∧ Below w.heap.size w w' := by
 have hn : l0.length ≤ 9223372036854775807 := hr0.2.1
 have HR0 := Aside0.mk hr0
 have HP := Aside0.mk hp
 have H := Aside0.mk h
 clear hp hr0 h
 go_enter Try.func98, Try.ntmps98
 go_wp2
 go_loopg [5, 8] l0.length (fun gg _ s8 wr => ∃ kk : Int, 0 ≤ kk ∧ kk ≤ (l0.length : Int) ∧ Aside0 (l0.length ≤ gg + kk) ∧ s8 = .int .i64 kk ∧ Aside0 (Below w.heap.size w wr) ∧ Aside0 (Copy.idxO p (l0.length - kk.toNat) kk = some r))
 case atStart => exact ⟨0, by omega, by omega, ⟨by omega⟩, rfl, ⟨Below.refl _ _⟩, H⟩
 case round =>
  clear H
  obtain ⟨kk, h0, hkk, hg, rfl, HB, A⟩ := hrel
  by_cases hlt : kk < (l0.length : Int)
  ·have hltb : decide (kk < (l0.length : Int)) = true := decide_eq_true hlt
   obtain ⟨ad, A9, c9, e1, hx0, hl9, hi9⟩ := at_L1 (Kd.C_below HR0.out HB.out) kk h0 hlt
   cases e1
   have hd : l0.length - kk.toNat = (l0.length - (kk + 1).toNat) + 1 := by omega
   have A1 := A.out
   rw [hd, Copy.idxO] at A1
   clear A hd
   obtain ⟨b, hq, A1⟩ := Option.bind_eq_some_iff.mp A1
   have hcall := Aside0.mk (HP.out kk h0 hlt b hq _ HB.out A9 c9 hi9 hl9)
   have H0 := Aside0.mk h0
   replace h0 := eq_true h0
   clear hq hi9
   have HL9 := Aside0.mk hl9
   clear hl9
   cases b with
   | true =>
    rw [if_pos rfl] at A1
    obtain rfl := Option.some.inj A1
    clear A1
    go_wp2_with (go_at_fn g; refine hcall.out.mono ?_; rintro e w' ⟨rfl, HB1⟩)
    go_ret
    exact ⟨rfl, below_then HB.out HB.out.size HB1⟩
   | false =>
    have A' := Aside0.mk A1
    clear A1
    have hw : wrap64 (kk + 1) = kk + 1 := by have := H0.out; unfold wrap64; omega
    have HW := Aside0.mk hw
    clear hw
    go_wp2_with (go_at_fn g; refine hcall.out.mono ?_; rintro e w' ⟨rfl, HB1⟩)
    go_roundg (l0.length - (kk + 1).toNat)
    case measure => have := hg.out; have := H0.out; omega
    case rel => exact ⟨kk + 1, by have := H0.out; omega, by omega, ⟨by have := H0.out; omega⟩, by first | rfl | rw [HW.out], ⟨below_then HB.out HB.out.size HB1⟩, ⟨by have := A'.out; simpa using this⟩⟩
  ·have hltb : decide (kk < (l0.length : Int)) = false := decide_eq_false hlt
   have this : kk.toNat = l0.length := by omega
   have A1 := A.out
   rw [this, Nat.sub_self, Copy.idxO] at A1
   obtain rfl := Option.some.inj A1
   clear A A1 this
   go_wp2
   go_ret
   exact ⟨rfl, HB.out⟩

/-! ### slices_ContainsFunc_int_int: function 61 -/
set_option maxHeartbeats 400000 in
theorem slices_ContainsFunc_int_int.calls (g : Nat) (lb : Array Value) (eg : ∀ args w, (callFunc g args).run Try.prog w = .ok (.enter g args) w)
  (A0 : Option Addr) (c0 : Nat) (l0 : List (List Int)) (p : Int → Option Bool) (r : Int) (w : World) (hr0 : Kd.C (Kd.slice 3 (Kd.int .i64)) w A0 l0.length l0)
  (hp : ∀ (i : Int), 0 ≤ i → i < l0.length → ∀ b, p i = some b → ∀ W, Below w.heap.size w W → ∀ A c, Kd.C (Kd.int .i64) W A (rd_L1 l0 i).length (rd_L1 l0 i) → (rd_L1 l0 i).length ≤ c → Calls Try.prog g (#[.slice A (rd_L1 l0 i).length c] ++ lb) W fun e w' => e = .returned (.bool b) ∧ Below W.heap.size W w')
  (h : Copy.idxO p l0.length 0 = some r) :
  Calls Try.prog 61 #[.slice A0 l0.length c0, .func (.func g) #[] lb] w fun e w' => e = .returned (.bool (decide (0 ≤ r))) ∧ Below w.heap.size w w' := by
 have HC := Aside0.mk (slices_IndexFunc_int_int_98.calls g lb eg A0 c0 l0 p r w hr0 hp h)
 clear hp hr0 h
 go_enter Try.func61, Try.ntmps61
 go_wp2_with (go_at_call 98; refine HC.out.mono ?_; rintro e w' ⟨rfl, HB1⟩)
 go_ret
 exact ⟨rfl, HB1⟩

/-! ### impl_atomOf: function 93 -/
def impl_atomOf.f (a0 : Int) : Option (Int) := some (mx a0 (wrap64 (-a0)))
set_option maxHeartbeats 8000000 in
set_option maxRecDepth 100000 in
theorem impl_atomOf.calls (a0 : Int) (r : Int) (w : World) (h : impl_atomOf.f a0 = some r) :
  Calls Try.prog 93 #[.int .i64 a0] w fun e w' => e = .returned (.int .i64 r) ∧ Below w.heap.size w w' := by
 have HB := Aside0.mk (Below.refl w.heap.size w)
 have H : (some (mx a0 (wrap64 (-a0)))) = some r := h
 clear h
 obtain ⟨ji2, hji2⟩ : ∃ j_ : Int, (mx a0 (wrap64 (-a0))) = j_ := ⟨_, rfl⟩
 replace H : (some ji2) = some r := by first | (rw [hji2] at H; exact H) | (simp only [hji2] at H ⊢; exact H)
 have hji2_ : (if a0 < (wrap64 (-a0)) then (wrap64 (-a0)) else a0) = ji2 := hji2
 obtain rfl := Option.some.inj H
 go_enter Try.func93, Try.ntmps93
 go_wp2
 go_ret
 exact ⟨by first | rfl | (simp [errW_none, errW_some] <;> rfl) | (simp only [← hji2]; first | rfl | (simp [errW_none, errW_some] <;> rfl)) | (simp [*, errW_none, errW_some] <;> rfl), by repeat (first | (with_reducible first | exact HB.out | apply bwA | apply bwN | apply bwD) | exact HB.out)⟩

/-! ### impl_ClauseValid: function 51 -/
def impl_ClauseValid.l0 : Nat → List Int → Int → List Int → Int → Int → Option (Bool)
 | 0, _, _, _, _, _ => none
 | k + 1, x0, x1, x10, x11, x12 => if x12 < x11 then (if 0 ≤ x12 then (if x12 < (x10.length : Int) then ((impl_in.f (rd x10 x12) (wrap64 (-x1)) x1).bind fun t216 => (if t216 = true then (if (rd x10 x12) = 0 then (some false) else (if x12 > 0 then (if 0 ≤ (wrap64 (x12 - 1)) then (if (wrap64 (x12 - 1)) < (x0.length : Int) then ((impl_atomOf.f (rd x0 (wrap64 (x12 - 1)))).bind fun t218 => ((impl_atomOf.f (rd x10 x12)).bind fun t219 => (if t218 ≥ t219 then (some false) else (impl_ClauseValid.l0 k x0 x1 x10 x11 (wrap64 (x12 + 1)))))) else (none)) else (none)) else (impl_ClauseValid.l0 k x0 x1 x10 x11 (wrap64 (x12 + 1))))) else (some false))) else (none)) else (none)) else (some true)
def impl_ClauseValid.f (k : Nat) (l0 : List Int) (a1 : Int) : Option (Bool) := (impl_in.f a1 0 700).bind fun t214 => (if t214 = true then (impl_ClauseValid.l0 k l0 a1 l0 (l0.length : Int) 0) else (some false))
theorem impl_ClauseValid.mono_l : ∀ k, (∀ y0 y1 y2 y3 y4, LeO (impl_ClauseValid.l0 k y0 y1 y2 y3 y4) (impl_ClauseValid.l0 (k + 1) y0 y1 y2 y3 y4))
 | 0 => fun _ _ _ _ _ r h => by simp [impl_ClauseValid.l0] at h
 | k + 1 => by
  have ih0 := impl_ClauseValid.mono_l k
  ·intro y0 y1 y2 y3 y4
   unfold impl_ClauseValid.l0
   repeat' first
   | (with_reducible exact ih0 _ _ _ _ _)
   | (with_reducible exact LeO.refl _)
   | (with_reducible exact LeO.none _)
   | (with_reducible refine LeO.ite ?_ ?_)
   | (with_reducible refine LeO.bind ?_ (fun _ => ?_))
   | exact ih0 _ _ _ _ _
   | exact LeO.none _
   | refine LeO.ite ?_ ?_
   | refine LeO.bind ?_ (fun _ => ?_)
theorem impl_ClauseValid.mono : ∀ a0 a1 k, LeO (impl_ClauseValid.f k a0 a1) (impl_ClauseValid.f (k + 1) a0 a1) := by
 intro a0 a1 k
 have ih0 := impl_ClauseValid.mono_l k
 unfold impl_ClauseValid.f
 repeat' first
   | (with_reducible exact ih0 _ _ _ _ _)
   | (with_reducible exact LeO.refl _)
   | (with_reducible exact LeO.none _)
   | (with_reducible refine LeO.ite ?_ ?_)
   | (with_reducible refine LeO.bind ?_ (fun _ => ?_))
   | exact ih0 _ _ _ _ _
   | exact LeO.none _
   | refine LeO.ite ?_ ?_
   | refine LeO.bind ?_ (fun _ => ?_)
set_option maxHeartbeats 8000000 in
set_option maxRecDepth 100000 in
theorem impl_ClauseValid.calls (k : Nat) (A0 : Option Addr) (c0 : Nat) (l0 : List Int) (a1 : Int) (r : Bool) (w : World) (hr0 : Kd.C (Kd.int .i64) w A0 l0.length l0) (hc0 : l0.length ≤ c0) (h : impl_ClauseValid.f k l0 a1 = some r) :
  Calls Try.prog 51 #[.slice A0 l0.length c0, .int .i64 a1] w fun e w' => e = .returned (.bool r) ∧ Below w.heap.size w w' := by
 have HR0 := Aside0.mk hr0
 have HC0 := Aside0.mk hc0
 clear hr0 hc0
 have HB := Aside0.mk (Below.refl w.heap.size w)
 have H : ((impl_in.f a1 0 700).bind fun t214 => (if t214 = true then (impl_ClauseValid.l0 k l0 a1 l0 (l0.length : Int) 0) else (some false))) = some r := h
 clear h
 replace H := Option.bind_eq_some_iff.mp H
 obtain ⟨t214, A30, H⟩ := H
 replace H : (if t214 = true then (impl_ClauseValid.l0 k l0 a1 l0 (l0.length : Int) 0) else (some false)) = some r := H
 have A3 := Aside0.mk A30
 clear A30
 by_cases c4 : t214 = true
 ·subst c4
  have H1 : (impl_ClauseValid.l0 k l0 a1 l0 (l0.length : Int) 0) = some r := by rw [if_pos rfl] at H; exact H
  clear H
  have H := H1
  clear H1
  have H' := Aside0.mk H
  clear H
  go_enter Try.func51, Try.ntmps51
  go_wp2_with (first | ((with_reducible refine gate_callee (f := 60) rfl ?_); refine goesL_ (some 8) rfl rfl Try.func60 (by kernel_rfl) rfl #[.int .i64 a1, .int .i64 0, .int .i64 700] rfl (by (try simp only [List.map_toArray, List.map_cons, List.map_nil]); first | done | rfl | (simp only [List.length_drop, List.length_take]; rfl)) ?_; (with_reducible refine (impl_in.calls a1 0 700 true _ A3.out).mono ?_); rintro e w' ⟨rfl, ⟨nd, rfl⟩⟩; refine ⟨_, rfl, ?_⟩))
  go_loopg [12] k (fun kq v12 w' => ∃ (x12_1 : Int), v12 = .int .i64 x12_1 ∧ Aside0 (impl_ClauseValid.l0 kq l0 a1 l0 (l0.length : Int) x12_1 = some r) ∧ Aside0 (kq ≤ k) ∧ Aside0 (Below w.heap.size w w'))
  case atStart => exact ⟨(0), (by first | rfl | (simp; done) | (simp [*]; done)), H', ⟨Nat.le_refl _⟩, ⟨by repeat (first | (with_reducible first | exact HB.out | apply bwA | apply bwN | apply bwD) | exact HB.out)⟩⟩
  case round =>
   clear H'
   try clear p2
   try clear c4
   obtain ⟨x12_1, rfl, HA, HK1, HB⟩ := hrel
   cases gk with
   | zero => exact absurd HA.out (by simp [impl_ClauseValid.l0])
   | succ k1 =>
    have H := HA.out
    clear HA
    simp only [impl_ClauseValid.l0] at H
    by_cases c5 : x12_1 < (l0.length : Int)
    ·rw [if_pos c5] at H
     have c5b0 : decide (x12_1 < (l0.length : Int)) = true := decide_eq_true c5
     clear c5
     by_cases c6 : 0 ≤ x12_1
     ·rw [if_pos c6] at H
      have c6b0 : decide (0 ≤ x12_1) = true := decide_eq_true c6
      clear c6
      by_cases c7 : x12_1 < (l0.length : Int)
      ·rw [if_pos c7] at H
       have c7b0 : decide (x12_1 < (l0.length : Int)) = true := decide_eq_true c7
       clear c7
       replace H := Option.bind_eq_some_iff.mp H
       obtain ⟨t216, A80, H⟩ := H
       replace H : (if t216 = true then (if (rd l0 x12_1) = 0 then (some false) else (if x12_1 > 0 then (if 0 ≤ (wrap64 (x12_1 - 1)) then (if (wrap64 (x12_1 - 1)) < (l0.length : Int) then ((impl_atomOf.f (rd l0 (wrap64 (x12_1 - 1)))).bind fun t218 => ((impl_atomOf.f (rd l0 x12_1)).bind fun t219 => (if t218 ≥ t219 then (some false) else (impl_ClauseValid.l0 k1 l0 a1 l0 (l0.length : Int) (wrap64 (x12_1 + 1)))))) else (none)) else (none)) else (impl_ClauseValid.l0 k1 l0 a1 l0 (l0.length : Int) (wrap64 (x12_1 + 1))))) else (some false)) = some r := H
       have A8 := Aside0.mk A80
       clear A80
       by_cases c9 : t216 = true
       ·subst c9
        have H1 : (if (rd l0 x12_1) = 0 then (some false) else (if x12_1 > 0 then (if 0 ≤ (wrap64 (x12_1 - 1)) then (if (wrap64 (x12_1 - 1)) < (l0.length : Int) then ((impl_atomOf.f (rd l0 (wrap64 (x12_1 - 1)))).bind fun t218 => ((impl_atomOf.f (rd l0 x12_1)).bind fun t219 => (if t218 ≥ t219 then (some false) else (impl_ClauseValid.l0 k1 l0 a1 l0 (l0.length : Int) (wrap64 (x12_1 + 1)))))) else (none)) else (none)) else (impl_ClauseValid.l0 k1 l0 a1 l0 (l0.length : Int) (wrap64 (x12_1 + 1))))) = some r := by rw [if_pos rfl] at H; exact H
        clear H
        have H := H1
        clear H1
        by_cases c10 : (rd l0 x12_1) = 0
        ·rw [if_pos c10] at H
         have c10b0 : ((rd l0 x12_1) == 0) = true := beq_iff_eq.mpr c10
         have c10b1 : ((rd l0 x12_1) != 0) = false := bne_eq_false_iff_eq.mpr c10
         clear c10
         obtain rfl := Option.some.inj H
         have p215 : 0 ≤ (x12_1 : Int) := of_decide_eq_true (by first | (with_reducible assumption) | assumption)
         have q215 : x12_1 < (l0.length : Int) := of_decide_eq_true (by first | (with_reducible assumption) | assumption)
         obtain ⟨ad215, e215, hx215_0⟩ := Kd.at_int HR0.out x12_1 p215 q215
         cases e215
         try replace hx215_0 := (HB.out.cell (World.block_lt_of_cell? w _ hx215_0)).trans hx215_0
         replace p215 := eq_true p215
         replace q215 := eq_true q215
         go_wp2_with (first | ((with_reducible refine gate_callee (f := 60) rfl ?_); refine goesL_ (some 21) rfl rfl Try.func60 (by kernel_rfl) rfl #[.int .i64 (rd l0 x12_1), .int .i64 (wrap64 (-a1)), .int .i64 a1] rfl (by (try simp only [List.map_toArray, List.map_cons, List.map_nil]); first | done | rfl | (simp only [List.length_drop, List.length_take]; rfl)) ?_; (with_reducible refine (impl_in.calls (rd l0 x12_1) (wrap64 (-a1)) a1 true _ A8.out).mono ?_); rintro e w' ⟨rfl, ⟨nd, rfl⟩⟩; refine ⟨_, rfl, ?_⟩))
         go_ret
         exact ⟨by first | rfl | (simp [errW_none, errW_some] <;> rfl) | (simp [*, errW_none, errW_some] <;> rfl), by repeat (first | (with_reducible first | exact HB.out | apply bwA | apply bwN | apply bwD) | exact HB.out)⟩
        ·rw [if_neg c10] at H
         have c10b0 : ((rd l0 x12_1) == 0) = false := beq_eq_false_iff_ne.mpr c10
         have c10b1 : ((rd l0 x12_1) != 0) = true := bne_iff_ne.mpr c10
         by_cases c11 : x12_1 > 0
         ·rw [if_pos c11] at H
          have c11b0 : decide (0 < x12_1) = true := decide_eq_true c11
          clear c11
          obtain ⟨ji12, hji12⟩ : ∃ j_ : Int, (wrap64 (x12_1 - 1)) = j_ := ⟨_, rfl⟩
          replace H : (if 0 ≤ (ji12) then (if (ji12) < (l0.length : Int) then ((impl_atomOf.f (rd l0 (ji12))).bind fun t218 => ((impl_atomOf.f (rd l0 x12_1)).bind fun t219 => (if t218 ≥ t219 then (some false) else (impl_ClauseValid.l0 k1 l0 a1 l0 (l0.length : Int) (wrap64 (x12_1 + 1)))))) else (none)) else (none)) = some r := by first | (rw [hji12] at H; exact H) | (simp only [hji12] at H ⊢; exact H)
          (try rw [hji12] at A8)
          have hji12w : (IntKind.i64.wrap (x12_1 - 1)) = ji12 := (i64_w _).trans hji12
          by_cases c13 : 0 ≤ (ji12)
          ·rw [if_pos c13] at H
           have c13b0 : decide (0 ≤ (ji12)) = true := decide_eq_true c13
           clear c13
           by_cases c14 : (ji12) < (l0.length : Int)
           ·rw [if_pos c14] at H
            have c14b0 : decide ((ji12) < (l0.length : Int)) = true := decide_eq_true c14
            clear c14
            replace H := Option.bind_eq_some_iff.mp H
            obtain ⟨t218, A150, H⟩ := H
            replace H : ((impl_atomOf.f (rd l0 x12_1)).bind fun t219 => (if t218 ≥ t219 then (some false) else (impl_ClauseValid.l0 k1 l0 a1 l0 (l0.length : Int) (wrap64 (x12_1 + 1))))) = some r := H
            have A15 := Aside0.mk A150
            clear A150
            replace H := Option.bind_eq_some_iff.mp H
            obtain ⟨t219, A160, H⟩ := H
            replace H : (if t218 ≥ t219 then (some false) else (impl_ClauseValid.l0 k1 l0 a1 l0 (l0.length : Int) (wrap64 (x12_1 + 1)))) = some r := H
            have A16 := Aside0.mk A160
            clear A160
            by_cases c17 : t218 ≥ t219
            ·rw [if_pos c17] at H
             have c17b0 : decide (t219 ≤ t218) = true := decide_eq_true c17
             clear c17
             obtain rfl := Option.some.inj H
             have p215 : 0 ≤ (x12_1 : Int) := of_decide_eq_true (by first | (with_reducible assumption) | assumption)
             have q215 : x12_1 < (l0.length : Int) := of_decide_eq_true (by first | (with_reducible assumption) | assumption)
             obtain ⟨ad215, e215, hx215_0⟩ := Kd.at_int HR0.out x12_1 p215 q215
             cases e215
             try replace hx215_0 := (HB.out.cell (World.block_lt_of_cell? w _ hx215_0)).trans hx215_0
             replace p215 := eq_true p215
             replace q215 := eq_true q215
             go_wp2_with (first | ((with_reducible refine gate_callee (f := 60) rfl ?_); refine goesL_ (some 21) rfl rfl Try.func60 (by kernel_rfl) rfl #[.int .i64 (rd l0 x12_1), .int .i64 (wrap64 (-a1)), .int .i64 a1] rfl (by (try simp only [List.map_toArray, List.map_cons, List.map_nil]); first | done | rfl | (simp only [List.length_drop, List.length_take]; rfl)) ?_; (with_reducible refine (impl_in.calls (rd l0 x12_1) (wrap64 (-a1)) a1 true _ A8.out).mono ?_); rintro e w' ⟨rfl, ⟨nd, rfl⟩⟩; refine ⟨_, rfl, ?_⟩; have p217 : 0 ≤ ((ji12) : Int) := of_decide_eq_true (by first | (with_reducible assumption) | assumption); have q217 : (ji12) < (l0.length : Int) := of_decide_eq_true (by first | (with_reducible assumption) | assumption); obtain ⟨ad217, e217, hx217_0⟩ := Kd.at_int HR0.out (ji12) p217 q217; obtain rfl : ad215 = ad217 := (by injection e217); replace hx217_0 := (HB.out.cell (World.block_lt_of_cell? w _ hx217_0)).trans hx217_0; replace p217 := eq_true p217; replace q217 := eq_true q217) | (go_at_call 93; (with_reducible refine (impl_atomOf.calls (rd l0 (ji12)) t218 _ A15.out).mono ?_); rintro e w18 ⟨rfl, hb⟩; have n0_ := Aside0.mk (below_step (by repeat (first | (with_reducible first | exact HB.out | apply bwA | apply bwN | apply bwD) | exact HB.out)) hb); clear HB; have HB := n0_; clear n0_; (try clear hb); (try clear hb2); (try clear hk); (try clear hi)) | (go_at_call 93; (with_reducible refine (impl_atomOf.calls (rd l0 x12_1) t219 _ A16.out).mono ?_); rintro e w19 ⟨rfl, hb⟩; have n0_ := Aside0.mk (below_step (by repeat (first | (with_reducible first | exact HB.out | apply bwA | apply bwN | apply bwD) | exact HB.out)) hb); clear HB; have HB := n0_; clear n0_; (try clear hb); (try clear hb2); (try clear hk); (try clear hi)))
             go_ret
             exact ⟨by first | rfl | (simp [errW_none, errW_some] <;> rfl) | (simp only [← hji12]; first | rfl | (simp [errW_none, errW_some] <;> rfl)) | (simp [*, errW_none, errW_some] <;> rfl), by repeat (first | (with_reducible first | exact HB.out | apply bwA | apply bwN | apply bwD) | exact HB.out)⟩
            ·rw [if_neg c17] at H
             have c17b0 : decide (t219 ≤ t218) = false := decide_eq_false c17
             clear c17
             have H' := Aside0.mk H
             clear H
             have p215 : 0 ≤ (x12_1 : Int) := of_decide_eq_true (by first | (with_reducible assumption) | assumption)
             have q215 : x12_1 < (l0.length : Int) := of_decide_eq_true (by first | (with_reducible assumption) | assumption)
             obtain ⟨ad215, e215, hx215_0⟩ := Kd.at_int HR0.out x12_1 p215 q215
             cases e215
             try replace hx215_0 := (HB.out.cell (World.block_lt_of_cell? w _ hx215_0)).trans hx215_0
             replace p215 := eq_true p215
             replace q215 := eq_true q215
             go_wp2_with (first | ((with_reducible refine gate_callee (f := 60) rfl ?_); refine goesL_ (some 21) rfl rfl Try.func60 (by kernel_rfl) rfl #[.int .i64 (rd l0 x12_1), .int .i64 (wrap64 (-a1)), .int .i64 a1] rfl (by (try simp only [List.map_toArray, List.map_cons, List.map_nil]); first | done | rfl | (simp only [List.length_drop, List.length_take]; rfl)) ?_; (with_reducible refine (impl_in.calls (rd l0 x12_1) (wrap64 (-a1)) a1 true _ A8.out).mono ?_); rintro e w' ⟨rfl, ⟨nd, rfl⟩⟩; refine ⟨_, rfl, ?_⟩; have p217 : 0 ≤ ((ji12) : Int) := of_decide_eq_true (by first | (with_reducible assumption) | assumption); have q217 : (ji12) < (l0.length : Int) := of_decide_eq_true (by first | (with_reducible assumption) | assumption); obtain ⟨ad217, e217, hx217_0⟩ := Kd.at_int HR0.out (ji12) p217 q217; obtain rfl : ad215 = ad217 := (by injection e217); replace hx217_0 := (HB.out.cell (World.block_lt_of_cell? w _ hx217_0)).trans hx217_0; replace p217 := eq_true p217; replace q217 := eq_true q217) | (go_at_call 93; (with_reducible refine (impl_atomOf.calls (rd l0 (ji12)) t218 _ A15.out).mono ?_); rintro e w20 ⟨rfl, hb⟩; have n0_ := Aside0.mk (below_step (by repeat (first | (with_reducible first | exact HB.out | apply bwA | apply bwN | apply bwD) | exact HB.out)) hb); clear HB; have HB := n0_; clear n0_; (try clear hb); (try clear hb2); (try clear hk); (try clear hi)) | (go_at_call 93; (with_reducible refine (impl_atomOf.calls (rd l0 x12_1) t219 _ A16.out).mono ?_); rintro e w21 ⟨rfl, hb⟩; have n0_ := Aside0.mk (below_step (by repeat (first | (with_reducible first | exact HB.out | apply bwA | apply bwN | apply bwD) | exact HB.out)) hb); clear HB; have HB := n0_; clear n0_; (try clear hb); (try clear hb2); (try clear hk); (try clear hi)))
             go_roundg k1
             case measure => have := HK1.out; omega
             case rel => exact ⟨(wrap64 (x12_1 + 1)), (by first | rfl | (simp; done) | (simp [*]; done)), H', ⟨by have := HK1.out; omega⟩, ⟨by repeat (first | (with_reducible first | exact HB.out | apply bwA | apply bwN | apply bwD) | exact HB.out)⟩⟩
           ·rw [if_neg c14] at H
            exact absurd H (by simp)
          ·rw [if_neg c13] at H
           exact absurd H (by simp)
         ·rw [if_neg c11] at H
          have c11b0 : decide (0 < x12_1) = false := decide_eq_false c11
          clear c11
          have H' := Aside0.mk H
          clear H
          have p215 : 0 ≤ (x12_1 : Int) := of_decide_eq_true (by first | (with_reducible assumption) | assumption)
          have q215 : x12_1 < (l0.length : Int) := of_decide_eq_true (by first | (with_reducible assumption) | assumption)
          obtain ⟨ad215, e215, hx215_0⟩ := Kd.at_int HR0.out x12_1 p215 q215
          cases e215
          try replace hx215_0 := (HB.out.cell (World.block_lt_of_cell? w _ hx215_0)).trans hx215_0
          replace p215 := eq_true p215
          replace q215 := eq_true q215
          go_wp2_with (first | ((with_reducible refine gate_callee (f := 60) rfl ?_); refine goesL_ (some 21) rfl rfl Try.func60 (by kernel_rfl) rfl #[.int .i64 (rd l0 x12_1), .int .i64 (wrap64 (-a1)), .int .i64 a1] rfl (by (try simp only [List.map_toArray, List.map_cons, List.map_nil]); first | done | rfl | (simp only [List.length_drop, List.length_take]; rfl)) ?_; (with_reducible refine (impl_in.calls (rd l0 x12_1) (wrap64 (-a1)) a1 true _ A8.out).mono ?_); rintro e w' ⟨rfl, ⟨nd, rfl⟩⟩; refine ⟨_, rfl, ?_⟩))
          go_roundg k1
          case measure => have := HK1.out; omega
          case rel => exact ⟨(wrap64 (x12_1 + 1)), (by first | rfl | (simp; done) | (simp [*]; done)), H', ⟨by have := HK1.out; omega⟩, ⟨by repeat (first | (with_reducible first | exact HB.out | apply bwA | apply bwN | apply bwD) | exact HB.out)⟩⟩
       ·replace c9 := Bool.eq_false_iff.mpr c9
        subst c9
        have H1 : (some false) = some r := by rw [if_neg (show ¬ (false = true) by decide)] at H; exact H
        clear H
        have H := H1
        clear H1
        obtain rfl := Option.some.inj H
        have p215 : 0 ≤ (x12_1 : Int) := of_decide_eq_true (by first | (with_reducible assumption) | assumption)
        have q215 : x12_1 < (l0.length : Int) := of_decide_eq_true (by first | (with_reducible assumption) | assumption)
        obtain ⟨ad215, e215, hx215_0⟩ := Kd.at_int HR0.out x12_1 p215 q215
        cases e215
        try replace hx215_0 := (HB.out.cell (World.block_lt_of_cell? w _ hx215_0)).trans hx215_0
        replace p215 := eq_true p215
        replace q215 := eq_true q215
        go_wp2_with (first | ((with_reducible refine gate_callee (f := 60) rfl ?_); refine goesL_ (some 21) rfl rfl Try.func60 (by kernel_rfl) rfl #[.int .i64 (rd l0 x12_1), .int .i64 (wrap64 (-a1)), .int .i64 a1] rfl (by (try simp only [List.map_toArray, List.map_cons, List.map_nil]); first | done | rfl | (simp only [List.length_drop, List.length_take]; rfl)) ?_; (with_reducible refine (impl_in.calls (rd l0 x12_1) (wrap64 (-a1)) a1 false _ A8.out).mono ?_); rintro e w' ⟨rfl, ⟨nd, rfl⟩⟩; refine ⟨_, rfl, ?_⟩))
        go_ret
        exact ⟨by first | rfl | (simp [errW_none, errW_some] <;> rfl) | (simp [*, errW_none, errW_some] <;> rfl), by repeat (first | (with_reducible first | exact HB.out | apply bwA | apply bwN | apply bwD) | exact HB.out)⟩
      ·rw [if_neg c7] at H
       exact absurd H (by simp)
     ·rw [if_neg c6] at H
      exact absurd H (by simp)
    ·rw [if_neg c5] at H
     have c5b0 : decide (x12_1 < (l0.length : Int)) = false := decide_eq_false c5
     clear c5
     obtain rfl := Option.some.inj H
     go_wp2
     go_ret
     exact ⟨by first | rfl | (simp [errW_none, errW_some] <;> rfl) | (simp [*, errW_none, errW_some] <;> rfl), by repeat (first | (with_reducible first | exact HB.out | apply bwA | apply bwN | apply bwD) | exact HB.out)⟩
 ·replace c4 := Bool.eq_false_iff.mpr c4
  subst c4
  have H1 : (some false) = some r := by rw [if_neg (show ¬ (false = true) by decide)] at H; exact H
  clear H
  have H := H1
  clear H1
  obtain rfl := Option.some.inj H
  go_enter Try.func51, Try.ntmps51
  go_wp2_with (first | ((with_reducible refine gate_callee (f := 60) rfl ?_); refine goesL_ (some 8) rfl rfl Try.func60 (by kernel_rfl) rfl #[.int .i64 a1, .int .i64 0, .int .i64 700] rfl (by (try simp only [List.map_toArray, List.map_cons, List.map_nil]); first | done | rfl | (simp only [List.length_drop, List.length_take]; rfl)) ?_; (with_reducible refine (impl_in.calls a1 0 700 false _ A3.out).mono ?_); rintro e w' ⟨rfl, ⟨nd, rfl⟩⟩; refine ⟨_, rfl, ?_⟩))
  go_ret
  exact ⟨by first | rfl | (simp [errW_none, errW_some] <;> rfl) | (simp [*, errW_none, errW_some] <;> rfl), by repeat (first | (with_reducible first | exact HB.out | apply bwA | apply bwN | apply bwD) | exact HB.out)⟩

end Go.Proofs.Ytkfmgfdbdgjfiaa.QFnExactCoreOf
