-- Written by a program of this session (mk.py). Lean checks it.
import Derived.Test.YtpcckoljocpchaaQFnAddPickx0
import Derived.Test.YtpcckoljocpchaaQFnAddPickx6
import Derived.Test.YtpcckoljocpchaaQFnAddPickx11
namespace Go.Proofs.Ytpcckoljocpchaa.QFnAddPick
open Go.RowKit Go.Proofs.YtpcckoljocpchaaW.PrintWords Go.Proofs.YtpcckoljocpchaaW.PrintLast Go.Proofs.YtpcckoljocpchaaW.PrintMore
attribute [local go_sem] max2_int min2_int max_two min_two max_three min_three max_four min_four   -- for this text's walks alone
set_option linter.unusedVariables false
set_option linter.unusedSimpArgs false

/-! ### laws_wcInts: function 21 -/
def laws_wcInts.l0 : Nat → List Int → List Int → Int → Int → Option (Bool)
 | 0, _, _, _, _ => none
 | k + 1, x1, x12, x13, x14 => if x14 < x13 then (if 0 ≤ x14 then (if x14 < (x12.length : Int) then (if x14 < (x1.length : Int) then (if (rd x1 x14) = (rd x12 x14) then (laws_wcInts.l0 k x1 x12 x13 (wrap64 (x14 + 1))) else (some false)) else (none)) else (none)) else (none)) else (some true)
def laws_wcInts.f (k : Nat) (l0 : List Int) (l1 : List Int) : Option (Bool) := if (l0.length : Int) = (l1.length : Int) then (laws_wcInts.l0 k l1 l0 (l0.length : Int) 0) else (some false)
theorem laws_wcInts.mono_l : ∀ k, (∀ y0 y1 y2 y3, LeO (laws_wcInts.l0 k y0 y1 y2 y3) (laws_wcInts.l0 (k + 1) y0 y1 y2 y3))
 | 0 => fun _ _ _ _ r h => by simp [laws_wcInts.l0] at h
 | k + 1 => by
  have ih0 := laws_wcInts.mono_l k
  ·intro y0 y1 y2 y3
   unfold laws_wcInts.l0
   repeat' first
   | (with_reducible exact ih0 _ _ _ _)
   | (with_reducible exact LeO.refl _)
   | (with_reducible exact LeO.none _)
   | (with_reducible refine LeO.ite ?_ ?_)
   | (with_reducible refine LeO.bind ?_ (fun _ => ?_))
   | exact ih0 _ _ _ _
   | exact LeO.none _
   | refine LeO.ite ?_ ?_
   | refine LeO.bind ?_ (fun _ => ?_)
theorem laws_wcInts.mono : ∀ a0 a1 k, LeO (laws_wcInts.f k a0 a1) (laws_wcInts.f (k + 1) a0 a1) := by
 intro a0 a1 k
 have ih0 := laws_wcInts.mono_l k
 unfold laws_wcInts.f
 repeat' first
   | (with_reducible exact ih0 _ _ _ _)
   | (with_reducible exact LeO.refl _)
   | (with_reducible exact LeO.none _)
   | (with_reducible refine LeO.ite ?_ ?_)
   | (with_reducible refine LeO.bind ?_ (fun _ => ?_))
   | exact ih0 _ _ _ _
   | exact LeO.none _
   | refine LeO.ite ?_ ?_
   | refine LeO.bind ?_ (fun _ => ?_)
set_option maxHeartbeats 8000000 in
set_option maxRecDepth 100000 in
theorem laws_wcInts.calls (k : Nat) (A0 : Option Addr) (c0 : Nat) (l0 : List Int) (A1 : Option Addr) (c1 : Nat) (l1 : List Int) (r : Bool) (w : World) (hr0 : Kd.C (Kd.int .i64) w A0 l0.length l0) (hc0 : l0.length ≤ c0) (hr1 : Kd.C (Kd.int .i64) w A1 l1.length l1) (hc1 : l1.length ≤ c1) (h : laws_wcInts.f k l0 l1 = some r) :
  Calls Try.prog 21 #[.slice A0 l0.length c0, .slice A1 l1.length c1] w fun e w' => e = .returned (.bool r) ∧ Drawn0 w w' := by
 have HR0 := Aside0.mk hr0
 have HC0 := Aside0.mk hc0
 clear hr0 hc0
 have HR1 := Aside0.mk hr1
 have HC1 := Aside0.mk hc1
 clear hr1 hc1
 have H : (if (l0.length : Int) = (l1.length : Int) then (laws_wcInts.l0 k l1 l0 (l0.length : Int) 0) else (some false)) = some r := h
 clear h
 by_cases c3 : (l0.length : Int) = (l1.length : Int)
 ·rw [if_pos c3] at H
  have c3b0 : ((l0.length : Int) == (l1.length : Int)) = true := beq_iff_eq.mpr c3
  have c3b1 : ((l0.length : Int) != (l1.length : Int)) = false := bne_eq_false_iff_eq.mpr c3
  have c3b2 : (l0.length == l1.length) = true := by first | simpa using c3 | (simp at c3 ⊢; omega)
  clear c3
  have H' := Aside0.mk H
  clear H
  go_enter Try.func21, Try.ntmps21
  go_wp2
  go_loopg [14] k (fun kq v14 w' => ∃ (x14_1 : Int), v14 = .int .i64 x14_1 ∧ Aside0 (laws_wcInts.l0 kq l1 l0 (l0.length : Int) x14_1 = some r) ∧ Aside0 (kq ≤ k) ∧ Drawn0 w w')
  case atStart => exact ⟨(0), rsd, H', ⟨Nat.le_refl _⟩, by repeat (first | exact Drawn0.refl _ | apply Drawn0.step)⟩
  case round =>
   clear H'
   try clear c1
   try clear c2
   try clear p2
   try clear c3
   try clear c3b0
   try clear c3b1
   try clear c3b2
   obtain ⟨x14_1, rfl, HA, HK1, ⟨m1, rfl⟩⟩ := hrel
   cases gk with
   | zero => exact absurd HA.out (by simp [laws_wcInts.l0])
   | succ k1 =>
    have H := HA.out
    clear HA
    simp only [laws_wcInts.l0] at H
    by_cases c4 : x14_1 < (l0.length : Int)
    ·rw [if_pos c4] at H
     have c4b0 : decide (x14_1 < (l0.length : Int)) = true := decide_eq_true c4
     clear c4
     by_cases c5 : 0 ≤ x14_1
     ·rw [if_pos c5] at H
      have c5b0 : decide (0 ≤ x14_1) = true := decide_eq_true c5
      clear c5
      by_cases c6 : x14_1 < (l0.length : Int)
      ·rw [if_pos c6] at H
       have c6b0 : decide (x14_1 < (l0.length : Int)) = true := decide_eq_true c6
       clear c6
       by_cases c7 : x14_1 < (l1.length : Int)
       ·rw [if_pos c7] at H
        have c7b0 : decide (x14_1 < (l1.length : Int)) = true := decide_eq_true c7
        clear c7
        by_cases c8 : (rd l1 x14_1) = (rd l0 x14_1)
        ·rw [if_pos c8] at H
         have c8b0 : ((rd l1 x14_1) == (rd l0 x14_1)) = true := beq_iff_eq.mpr c8
         have c8b1 : ((rd l1 x14_1) != (rd l0 x14_1)) = false := bne_eq_false_iff_eq.mpr c8
         clear c8
         have H' := Aside0.mk H
         clear H
         have p306 : 0 ≤ (x14_1 : Int) := oda
         have q306 : x14_1 < (l0.length : Int) := oda
         obtain ⟨ad306, e306, hx306_0⟩ := Kd.at_int HR0.out x14_1 p306 q306
         cases e306
         replace p306 := eq_true p306
         replace q306 := eq_true q306
         have p307 : 0 ≤ (x14_1 : Int) := oda
         have q307 : x14_1 < (l1.length : Int) := oda
         obtain ⟨ad307, e307, hx307_0⟩ := Kd.at_int HR1.out x14_1 p307 q307
         cases e307
         replace p307 := eq_true p307
         replace q307 := eq_true q307
         go_wp2
         go_roundg k1
         case measure => have := HK1.out; omega
         case rel => exact ⟨(wrap64 (x14_1 + 1)), rsd, H', ⟨by have := HK1.out; omega⟩, by repeat (first | exact Drawn0.refl _ | apply Drawn0.step)⟩
        ·rw [if_neg c8] at H
         have c8b0 : ((rd l1 x14_1) == (rd l0 x14_1)) = false := beq_eq_false_iff_ne.mpr c8
         have c8b1 : ((rd l1 x14_1) != (rd l0 x14_1)) = true := bne_iff_ne.mpr c8
         obtain rfl := Option.some.inj H
         have p306 : 0 ≤ (x14_1 : Int) := oda
         have q306 : x14_1 < (l0.length : Int) := oda
         obtain ⟨ad306, e306, hx306_0⟩ := Kd.at_int HR0.out x14_1 p306 q306
         cases e306
         replace p306 := eq_true p306
         replace q306 := eq_true q306
         have p307 : 0 ≤ (x14_1 : Int) := oda
         have q307 : x14_1 < (l1.length : Int) := oda
         obtain ⟨ad307, e307, hx307_0⟩ := Kd.at_int HR1.out x14_1 p307 q307
         cases e307
         replace p307 := eq_true p307
         replace q307 := eq_true q307
         go_wp2
         go_ret
         exact ⟨by first | rfl | (simp; done) | (simp [*]; done), by repeat (first | exact Drawn0.refl _ | apply Drawn0.step)⟩
       ·rw [if_neg c7] at H
        exact absurd H (by simp)
      ·rw [if_neg c6] at H
       exact absurd H (by simp)
     ·rw [if_neg c5] at H
      exact absurd H (by simp)
    ·rw [if_neg c4] at H
     have c4b0 : decide (x14_1 < (l0.length : Int)) = false := decide_eq_false c4
     clear c4
     obtain rfl := Option.some.inj H
     go_wp2
     go_ret
     exact ⟨by first | rfl | (simp; done) | (simp [*]; done), by repeat (first | exact Drawn0.refl _ | apply Drawn0.step)⟩
 ·rw [if_neg c3] at H
  have c3b0 : ((l0.length : Int) == (l1.length : Int)) = false := beq_eq_false_iff_ne.mpr c3
  have c3b1 : ((l0.length : Int) != (l1.length : Int)) = true := bne_iff_ne.mpr c3
  have c3b2 : (l0.length == l1.length) = false := by first | simpa using c3 | (simp at c3 ⊢; omega)
  obtain rfl := Option.some.inj H
  go_enter Try.func21, Try.ntmps21
  go_wp2
  go_ret
  exact ⟨by first | rfl | (simp; done) | (simp [*]; done), by repeat (first | exact Drawn0.refl _ | apply Drawn0.step)⟩

/-! ### impl_EdgeValue: function 22 -/
def impl_EdgeValue.j0 : Nat → List Int → Int → Bool → Int → List (S92) → Option (Int)
 | 0, _, _, _, _, _ => none
 | k + 1, x1, x2, x27, x309000, x309001 => if x27 = true then (some (-1)) else ((impl_Circuit_values.f k x309000 x309001 x1).bind fun t312 => ((impl_edgeOf.f t312 x2).bind fun t315 => (some t315)))
def impl_EdgeValue.f (k : Nat) (a0_0 : Int) (l0_1 : List (S92)) (l1 : List Int) (a2 : Int) : Option (Int) := (impl_CircuitValid.f k a0_0 l0_1).bind fun t309 => (if t309 = true then (if (l1.length : Int) = a0_0 then ((impl_bitsValid.f l1).bind fun t310 => (if t310 = true then ((impl_Circuit_isEdge.f a0_0 l0_1 a2).bind fun t311 => (impl_EdgeValue.j0 k l1 a2 (!t311) a0_0 l0_1)) else (impl_EdgeValue.j0 k l1 a2 true a0_0 l0_1))) else (impl_EdgeValue.j0 k l1 a2 true a0_0 l0_1)) else (impl_EdgeValue.j0 k l1 a2 true a0_0 l0_1))
theorem impl_EdgeValue.mono_l : ∀ k, (∀ y0 y1 y2 y3 y4, LeO (impl_EdgeValue.j0 k y0 y1 y2 y3 y4) (impl_EdgeValue.j0 (k + 1) y0 y1 y2 y3 y4))
 | 0 => fun _ _ _ _ _ r h => by simp [impl_EdgeValue.j0] at h
 | k + 1 => by
  have ih0 := impl_EdgeValue.mono_l k
  ·intro y0 y1 y2 y3 y4
   unfold impl_EdgeValue.j0
   repeat' first
   | (with_reducible exact ih0 _ _ _ _ _)
   | (with_reducible exact impl_CircuitValid.mono _ _ _)
   | (with_reducible exact impl_Circuit_values.mono _ _ _ _)
   | (with_reducible exact LeO.refl _)
   | (with_reducible exact LeO.none _)
   | (with_reducible refine LeO.ite ?_ ?_)
   | (with_reducible refine LeO.bind ?_ (fun _ => ?_))
   | exact ih0 _ _ _ _ _
   | exact impl_CircuitValid.mono _ _ _
   | exact impl_Circuit_values.mono _ _ _ _
   | exact LeO.none _
   | refine LeO.ite ?_ ?_
   | refine LeO.bind ?_ (fun _ => ?_)
theorem impl_EdgeValue.mono : ∀ a0 a1 a2 a3 k, LeO (impl_EdgeValue.f k a0 a1 a2 a3) (impl_EdgeValue.f (k + 1) a0 a1 a2 a3) := by
 intro a0 a1 a2 a3 k
 have ih0 := impl_EdgeValue.mono_l k
 unfold impl_EdgeValue.f
 repeat' first
   | (with_reducible exact ih0 _ _ _ _ _)
   | (with_reducible exact impl_CircuitValid.mono _ _ _)
   | (with_reducible exact impl_Circuit_values.mono _ _ _ _)
   | (with_reducible exact LeO.refl _)
   | (with_reducible exact LeO.none _)
   | (with_reducible refine LeO.ite ?_ ?_)
   | (with_reducible refine LeO.bind ?_ (fun _ => ?_))
   | exact ih0 _ _ _ _ _
   | exact impl_CircuitValid.mono _ _ _
   | exact impl_Circuit_values.mono _ _ _ _
   | exact LeO.none _
   | refine LeO.ite ?_ ?_
   | refine LeO.bind ?_ (fun _ => ?_)
set_option maxHeartbeats 8000000 in
set_option maxRecDepth 100000 in
theorem impl_EdgeValue.calls (k : Nat) (a0_0 : Int) (A0_1 : Option Addr) (c0_1 : Nat) (l0_1 : List (S92)) (A1 : Option Addr) (c1 : Nat) (l1 : List Int) (a2 : Int) (r : Int) (w : World) (hr0_1 : Kd.C k92 w A0_1 l0_1.length l0_1) (hc0_1 : l0_1.length ≤ c0_1) (hr1 : Kd.C (Kd.int .i64) w A1 l1.length l1) (hc1 : l1.length ≤ c1) (h : impl_EdgeValue.f k a0_0 l0_1 l1 a2 = some r) :
  Calls Try.prog 22 #[.agg #[.int .i64 a0_0, .slice A0_1 l0_1.length c0_1], .slice A1 l1.length c1, .int .i64 a2] w fun e w' => e = .returned (.int .i64 r) ∧ Below w.heap.size w w' := by
 have hu28 := Try.underlying28
 have HR0_1 := Aside0.mk hr0_1
 have HC0_1 := Aside0.mk hc0_1
 clear hr0_1 hc0_1
 have HR1 := Aside0.mk hr1
 have HC1 := Aside0.mk hc1
 clear hr1 hc1
 have HB := Aside0.mk (Below.refl w.heap.size w)
 have H : ((impl_CircuitValid.f k a0_0 l0_1).bind fun t309 => (if t309 = true then (if (l1.length : Int) = a0_0 then ((impl_bitsValid.f l1).bind fun t310 => (if t310 = true then ((impl_Circuit_isEdge.f a0_0 l0_1 a2).bind fun t311 => (impl_EdgeValue.j0 k l1 a2 (!t311) a0_0 l0_1)) else (impl_EdgeValue.j0 k l1 a2 true a0_0 l0_1))) else (impl_EdgeValue.j0 k l1 a2 true a0_0 l0_1)) else (impl_EdgeValue.j0 k l1 a2 true a0_0 l0_1))) = some r := h
 clear h
 have HC4 := Aside0.mk H
 clear H
 go_enter Try.func22, Try.ntmps22
 go_upto_region 1 with (first | ((with_reducible refine gate_dst (N := 3) rfl ?_); (try (refine gate_guard (by rfl) ?_; dsimp only)); refine box_event ?hg (N := 3) ?hd (cs := #[.int .i64 a0_0, .slice A0_1 l0_1.length c0_1]) (t := 28) ?hr ?_; (case hd => rfl); (case hg => rfl); (case hr => first | (go_simp; done) | (go_simp; rfl)); intro gb308 hg w5 hbox hb; have n0_ := Aside0.mk (below_step hbB hb); have n1_ := Aside0.mk (hbox); have n2_ := Aside0.mk ((gwb hg (below_size hbB) : w.heap.size ≤ gb308)); have n3_ := n2_; clear HB; have HB := n0_; have BK308 := n1_; have GW308 := n2_; have GE308 := n3_; clear n0_ n1_ n2_ n3_; clear hb hbox hg))
 (try simp only [Act.put, List.setIfInBounds_toArray, List.set_cons_zero, List.set_cons_succ])
 go_cut [27] (fun v27 wc => ∃ (kq : Nat) (x27_3 : Bool), v27 = .bool x27_3 ∧ Aside0 (impl_EdgeValue.j0 kq l1 a2 x27_3 a0_0 l0_1 = some r) ∧ Aside0 (kq ≤ k) ∧ Aside0 (wc.heap[gb308]? = some (.cells #[.int .i64 a0_0, (.slice A0_1 l0_1.length c0_1)] 28 (0, 0))) ∧ Aside0 (Below w.heap.size w wc))
 case first =>
  have H := HC4.out
  clear HC4
  replace H := Option.bind_eq_some_iff.mp H
  obtain ⟨t309, A60, H⟩ := H
  replace H : (if t309 = true then (if (l1.length : Int) = a0_0 then ((impl_bitsValid.f l1).bind fun t310 => (if t310 = true then ((impl_Circuit_isEdge.f a0_0 l0_1 a2).bind fun t311 => (impl_EdgeValue.j0 k l1 a2 (!t311) a0_0 l0_1)) else (impl_EdgeValue.j0 k l1 a2 true a0_0 l0_1))) else (impl_EdgeValue.j0 k l1 a2 true a0_0 l0_1)) else (impl_EdgeValue.j0 k l1 a2 true a0_0 l0_1)) = some r := H
  have A6 := Aside0.mk A60
  clear A60
  by_cases c7 : t309 = true
  ·subst c7
   have H1 : (if (l1.length : Int) = a0_0 then ((impl_bitsValid.f l1).bind fun t310 => (if t310 = true then ((impl_Circuit_isEdge.f a0_0 l0_1 a2).bind fun t311 => (impl_EdgeValue.j0 k l1 a2 (!t311) a0_0 l0_1)) else (impl_EdgeValue.j0 k l1 a2 true a0_0 l0_1))) else (impl_EdgeValue.j0 k l1 a2 true a0_0 l0_1)) = some r := by rw [if_pos rfl] at H; exact H
   clear H
   have H := H1
   clear H1
   by_cases c8 : (l1.length : Int) = a0_0
   ·rw [if_pos c8] at H
    have c8b0 : ((l1.length : Int) == a0_0) = true := beq_iff_eq.mpr c8
    have c8b1 : ((l1.length : Int) != a0_0) = false := bne_eq_false_iff_eq.mpr c8
    clear c8
    (first | rw [c8b0] | (simp only [i64_w, i32_w]; rw [c8b0]) | skip)
    replace H := Option.bind_eq_some_iff.mp H
    obtain ⟨t310, A90, H⟩ := H
    replace H : (if t310 = true then ((impl_Circuit_isEdge.f a0_0 l0_1 a2).bind fun t311 => (impl_EdgeValue.j0 k l1 a2 (!t311) a0_0 l0_1)) else (impl_EdgeValue.j0 k l1 a2 true a0_0 l0_1)) = some r := H
    have A9 := Aside0.mk A90
    clear A90
    by_cases c10 : t310 = true
    ·subst c10
     have H1 : ((impl_Circuit_isEdge.f a0_0 l0_1 a2).bind fun t311 => (impl_EdgeValue.j0 k l1 a2 (!t311) a0_0 l0_1)) = some r := by rw [if_pos rfl] at H; exact H
     clear H
     have H := H1
     clear H1
     replace H := Option.bind_eq_some_iff.mp H
     obtain ⟨t311, A110, H⟩ := H
     replace H : (impl_EdgeValue.j0 k l1 a2 (!t311) a0_0 l0_1) = some r := H
     have A11 := Aside0.mk A110
     clear A110
     have H' := Aside0.mk H
     clear H
     have hcz12_0 : w5.cell? ⟨gb308, 0, none⟩ = some (.int .i64 a0_0) := (blk_cell BK308.out 0).trans rfl
     have hcz12_1 : w5.cell? ⟨gb308, 1, none⟩ = some (.slice A0_1 l0_1.length c0_1) := (blk_cell BK308.out 1).trans rfl
     have hfz12_0 := blk_frozen BK308.out 0
     have hfz12_1 := blk_frozen BK308.out 1
     go_wp2_with (first | ((with_reducible refine gate_callee (f := 23) rfl ?_); refine goesL_ (some 8) rfl rfl Try.func23 (by kernel_rfl) rfl #[.agg #[.int .i64 a0_0, .slice A0_1 l0_1.length c0_1]] rfl lmB ?_; (with_reducible refine (impl_CircuitValid.calls k a0_0 _ _ l0_1 true _ ?side1 ?side2 A6.out).mono ?_); (case side1 => exact kcR (Kd.C_below HR0_1.out HB.out)); (case side2 => exact HC0_1.out); rintro e w13 ⟨rfl, hb⟩; refine ⟨_, rfl, ?_⟩; have n0_ := Aside0.mk (blk_below (g := gb308) (o := .cells #[.int .i64 a0_0, .slice A0_1 l0_1.length c0_1] 28 (0, 0)) (bvK BK308.out) hb); have n1_ := Aside0.mk (below_step hbC hb); clear BK308; clear HB; have BK308 := n0_; have HB := n1_; clear n0_ n1_; (try clear hb); (try clear hb2); (try clear hk); (try clear hi); have hcz14_0 : w13.cell? ⟨gb308, 0, none⟩ = some (.int .i64 a0_0) := (blk_cell BK308.out 0).trans rfl; have hcz14_1 : w13.cell? ⟨gb308, 1, none⟩ = some (.slice A0_1 l0_1.length c0_1) := (blk_cell BK308.out 1).trans rfl; have hfz14_0 := blk_frozen BK308.out 0; have hfz14_1 := blk_frozen BK308.out 1) | (go_at_call 69; (with_reducible refine (impl_bitsValid.calls _ _ l1 true _ ?side1 ?side2 A9.out).mono ?_); (case side1 => exact kcR (Kd.C_below HR1.out HB.out)); (case side2 => exact HC1.out); rintro e w15 ⟨rfl, hb⟩; have n0_ := Aside0.mk (blk_below (g := gb308) (o := .cells #[.int .i64 a0_0, .slice A0_1 l0_1.length c0_1] 28 (0, 0)) (bvK BK308.out) hb); have n1_ := Aside0.mk (below_step hbC hb); clear BK308; clear HB; have BK308 := n0_; have HB := n1_; clear n0_ n1_; (try clear hb); (try clear hb2); (try clear hk); (try clear hi); have hcz16_0 : w15.cell? ⟨gb308, 0, none⟩ = some (.int .i64 a0_0) := (blk_cell BK308.out 0).trans rfl; have hcz16_1 : w15.cell? ⟨gb308, 1, none⟩ = some (.slice A0_1 l0_1.length c0_1) := (blk_cell BK308.out 1).trans rfl; have hfz16_0 := blk_frozen BK308.out 0; have hfz16_1 := blk_frozen BK308.out 1) | (go_at_call 59; (with_reducible refine (impl_Circuit_isEdge.calls a0_0 _ _ l0_1 a2 t311 _ ?side1 ?side2 A11.out).mono ?_); (case side1 => exact kcR (Kd.C_below HR0_1.out HB.out)); (case side2 => exact HC0_1.out); rintro e w17 ⟨rfl, hb⟩; have n0_ := Aside0.mk (blk_below (g := gb308) (o := .cells #[.int .i64 a0_0, .slice A0_1 l0_1.length c0_1] 28 (0, 0)) (bvK BK308.out) hb); have n1_ := Aside0.mk (below_step hbC hb); clear BK308; clear HB; have BK308 := n0_; have HB := n1_; clear n0_ n1_; (try clear hb); (try clear hb2); (try clear hk); (try clear hi)))
     go_meet
     case rel => exact ⟨_, (!t311), rsd, H', ⟨by first | omega | exact Nat.le_refl _⟩, ⟨bvK BK308.out⟩, ⟨hbC⟩⟩
    ·replace c10 := Bool.eq_false_iff.mpr c10
     subst c10
     have H1 : (impl_EdgeValue.j0 k l1 a2 true a0_0 l0_1) = some r := by rw [if_neg (show ¬ (false = true) by decide)] at H; exact H
     clear H
     have H := H1
     clear H1
     have H' := Aside0.mk H
     clear H
     have hcz18_0 : w5.cell? ⟨gb308, 0, none⟩ = some (.int .i64 a0_0) := (blk_cell BK308.out 0).trans rfl
     have hcz18_1 : w5.cell? ⟨gb308, 1, none⟩ = some (.slice A0_1 l0_1.length c0_1) := (blk_cell BK308.out 1).trans rfl
     have hfz18_0 := blk_frozen BK308.out 0
     have hfz18_1 := blk_frozen BK308.out 1
     go_wp2_with (first | ((with_reducible refine gate_callee (f := 23) rfl ?_); refine goesL_ (some 8) rfl rfl Try.func23 (by kernel_rfl) rfl #[.agg #[.int .i64 a0_0, .slice A0_1 l0_1.length c0_1]] rfl lmB ?_; (with_reducible refine (impl_CircuitValid.calls k a0_0 _ _ l0_1 true _ ?side1 ?side2 A6.out).mono ?_); (case side1 => exact kcR (Kd.C_below HR0_1.out HB.out)); (case side2 => exact HC0_1.out); rintro e w19 ⟨rfl, hb⟩; refine ⟨_, rfl, ?_⟩; have n0_ := Aside0.mk (blk_below (g := gb308) (o := .cells #[.int .i64 a0_0, .slice A0_1 l0_1.length c0_1] 28 (0, 0)) (bvK BK308.out) hb); have n1_ := Aside0.mk (below_step hbC hb); clear BK308; clear HB; have BK308 := n0_; have HB := n1_; clear n0_ n1_; (try clear hb); (try clear hb2); (try clear hk); (try clear hi); have hcz20_0 : w19.cell? ⟨gb308, 0, none⟩ = some (.int .i64 a0_0) := (blk_cell BK308.out 0).trans rfl; have hcz20_1 : w19.cell? ⟨gb308, 1, none⟩ = some (.slice A0_1 l0_1.length c0_1) := (blk_cell BK308.out 1).trans rfl; have hfz20_0 := blk_frozen BK308.out 0; have hfz20_1 := blk_frozen BK308.out 1) | (go_at_call 69; (with_reducible refine (impl_bitsValid.calls _ _ l1 false _ ?side1 ?side2 A9.out).mono ?_); (case side1 => exact kcR (Kd.C_below HR1.out HB.out)); (case side2 => exact HC1.out); rintro e w21 ⟨rfl, hb⟩; have n0_ := Aside0.mk (blk_below (g := gb308) (o := .cells #[.int .i64 a0_0, .slice A0_1 l0_1.length c0_1] 28 (0, 0)) (bvK BK308.out) hb); have n1_ := Aside0.mk (below_step hbC hb); clear BK308; clear HB; have BK308 := n0_; have HB := n1_; clear n0_ n1_; (try clear hb); (try clear hb2); (try clear hk); (try clear hi)))
     go_meet
     case rel => exact ⟨_, (true), rsd, H', ⟨by first | omega | exact Nat.le_refl _⟩, ⟨bvK BK308.out⟩, ⟨hbC⟩⟩
   ·rw [if_neg c8] at H
    have c8b0 : ((l1.length : Int) == a0_0) = false := beq_eq_false_iff_ne.mpr c8
    have c8b1 : ((l1.length : Int) != a0_0) = true := bne_iff_ne.mpr c8
    (first | rw [c8b0] | (simp only [i64_w, i32_w]; rw [c8b0]) | skip)
    have H' := Aside0.mk H
    clear H
    have hcz22_0 : w5.cell? ⟨gb308, 0, none⟩ = some (.int .i64 a0_0) := (blk_cell BK308.out 0).trans rfl
    have hcz22_1 : w5.cell? ⟨gb308, 1, none⟩ = some (.slice A0_1 l0_1.length c0_1) := (blk_cell BK308.out 1).trans rfl
    have hfz22_0 := blk_frozen BK308.out 0
    have hfz22_1 := blk_frozen BK308.out 1
    go_wp2_with (first | ((with_reducible refine gate_callee (f := 23) rfl ?_); refine goesL_ (some 8) rfl rfl Try.func23 (by kernel_rfl) rfl #[.agg #[.int .i64 a0_0, .slice A0_1 l0_1.length c0_1]] rfl lmB ?_; (with_reducible refine (impl_CircuitValid.calls k a0_0 _ _ l0_1 true _ ?side1 ?side2 A6.out).mono ?_); (case side1 => exact kcR (Kd.C_below HR0_1.out HB.out)); (case side2 => exact HC0_1.out); rintro e w23 ⟨rfl, hb⟩; refine ⟨_, rfl, ?_⟩; have n0_ := Aside0.mk (blk_below (g := gb308) (o := .cells #[.int .i64 a0_0, .slice A0_1 l0_1.length c0_1] 28 (0, 0)) (bvK BK308.out) hb); have n1_ := Aside0.mk (below_step hbC hb); clear BK308; clear HB; have BK308 := n0_; have HB := n1_; clear n0_ n1_; (try clear hb); (try clear hb2); (try clear hk); (try clear hi); have hcz24_0 : w23.cell? ⟨gb308, 0, none⟩ = some (.int .i64 a0_0) := (blk_cell BK308.out 0).trans rfl; have hcz24_1 : w23.cell? ⟨gb308, 1, none⟩ = some (.slice A0_1 l0_1.length c0_1) := (blk_cell BK308.out 1).trans rfl; have hfz24_0 := blk_frozen BK308.out 0; have hfz24_1 := blk_frozen BK308.out 1))
    go_meet
    case rel => exact ⟨_, (true), rsd, H', ⟨by first | omega | exact Nat.le_refl _⟩, ⟨bvK BK308.out⟩, ⟨hbC⟩⟩
  ·replace c7 := Bool.eq_false_iff.mpr c7
   subst c7
   have H1 : (impl_EdgeValue.j0 k l1 a2 true a0_0 l0_1) = some r := by rw [if_neg (show ¬ (false = true) by decide)] at H; exact H
   clear H
   have H := H1
   clear H1
   have H' := Aside0.mk H
   clear H
   have hcz25_0 : w5.cell? ⟨gb308, 0, none⟩ = some (.int .i64 a0_0) := (blk_cell BK308.out 0).trans rfl
   have hcz25_1 : w5.cell? ⟨gb308, 1, none⟩ = some (.slice A0_1 l0_1.length c0_1) := (blk_cell BK308.out 1).trans rfl
   have hfz25_0 := blk_frozen BK308.out 0
   have hfz25_1 := blk_frozen BK308.out 1
   go_wp2_with (first | ((with_reducible refine gate_callee (f := 23) rfl ?_); refine goesL_ (some 8) rfl rfl Try.func23 (by kernel_rfl) rfl #[.agg #[.int .i64 a0_0, .slice A0_1 l0_1.length c0_1]] rfl lmB ?_; (with_reducible refine (impl_CircuitValid.calls k a0_0 _ _ l0_1 false _ ?side1 ?side2 A6.out).mono ?_); (case side1 => exact kcR (Kd.C_below HR0_1.out HB.out)); (case side2 => exact HC0_1.out); rintro e w26 ⟨rfl, hb⟩; refine ⟨_, rfl, ?_⟩; have n0_ := Aside0.mk (blk_below (g := gb308) (o := .cells #[.int .i64 a0_0, .slice A0_1 l0_1.length c0_1] 28 (0, 0)) (bvK BK308.out) hb); have n1_ := Aside0.mk (below_step hbC hb); clear BK308; clear HB; have BK308 := n0_; have HB := n1_; clear n0_ n1_; (try clear hb); (try clear hb2); (try clear hk); (try clear hi)))
   go_meet
   case rel => exact ⟨_, (true), rsd, H', ⟨by first | omega | exact Nat.le_refl _⟩, ⟨bvK BK308.out⟩, ⟨hbC⟩⟩
 case rest =>
  clear HC4
  try clear c1
  try clear c2
  try clear p2
  try clear c7
  try clear c8
  try clear c8b0
  try clear c8b1
  try clear c10
  try clear c22
  try clear c23
  try clear hcz12_0
  try clear hcz12_1
  try clear hcz14_0
  try clear hcz14_1
  try clear hcz16_0
  try clear hcz16_1
  try clear hcz18_0
  try clear hcz18_1
  try clear hcz20_0
  try clear hcz20_1
  try clear hcz22_0
  try clear hcz22_1
  try clear hcz24_0
  try clear hcz24_1
  try clear hcz25_0
  try clear hcz25_1
  try clear hfz12_0
  try clear hfz12_1
  try clear hfz14_0
  try clear hfz14_1
  try clear hfz16_0
  try clear hfz16_1
  try clear hfz18_0
  try clear hfz18_1
  try clear hfz20_0
  try clear hfz20_1
  try clear hfz22_0
  try clear hfz22_1
  try clear hfz24_0
  try clear hfz24_1
  try clear hfz25_0
  try clear hfz25_1
  obtain ⟨kq, x27_3, rfl, HA, HJ3, BK308, HB⟩ := hcut
  cases kq with
  | zero => exact absurd HA.out (by simp [impl_EdgeValue.j0])
  | succ kj3 =>
   have H := HA.out
   clear HA
   simp only [impl_EdgeValue.j0] at H
   by_cases c27 : x27_3 = true
   ·subst c27
    have H1 : (some (-1)) = some r := by rw [if_pos rfl] at H; exact H
    clear H
    have H := H1
    clear H1
    obtain rfl := Option.some.inj H
    go_wp2
    go_ret
    exact ⟨ers, hbC⟩
   ·replace c27 := Bool.eq_false_iff.mpr c27
    subst c27
    have H1 : ((impl_Circuit_values.f kj3 a0_0 l0_1 l1).bind fun t312 => ((impl_edgeOf.f t312 a2).bind fun t315 => (some t315))) = some r := by rw [if_neg (show ¬ (false = true) by decide)] at H; exact H
    clear H
    have H := H1
    clear H1
    replace H := Option.bind_eq_some_iff.mp H
    obtain ⟨t312, A280, H⟩ := H
    replace H : ((impl_edgeOf.f t312 a2).bind fun t315 => (some t315)) = some r := H
    have A28 := Aside0.mk A280
    clear A280
    replace H := Option.bind_eq_some_iff.mp H
    obtain ⟨t315, A290, H⟩ := H
    replace H : (some t315) = some r := H
    have A29 := Aside0.mk A290
    clear A290
    obtain rfl := Option.some.inj H
    have hcz30_0 : wc.cell? ⟨gb308, 0, none⟩ = some (.int .i64 a0_0) := (blk_cell BK308.out 0).trans rfl
    have hcz30_1 : wc.cell? ⟨gb308, 1, none⟩ = some (.slice A0_1 l0_1.length c0_1) := (blk_cell BK308.out 1).trans rfl
    have hfz30_0 := blk_frozen BK308.out 0
    have hfz30_1 := blk_frozen BK308.out 1
    go_wp2_with (first | ((with_reducible refine gate_callee (f := 71) rfl ?_); refine goesL_ (some 30) rfl rfl Try.func71 (by kernel_rfl) rfl #[.agg #[.int .i64 a0_0, .slice A0_1 l0_1.length c0_1], .slice A1 l1.length c1] rfl lmB ?_; (with_reducible refine (impl_Circuit_values.calls kj3 a0_0 _ _ l0_1 _ _ l1 t312 _ ?side1 ?side2 ?side3 ?side4 A28.out).mono ?_); (case side1 => exact kcR (Kd.C_below HR0_1.out HB.out)); (case side2 => exact HC0_1.out); (case side3 => exact kcR (Kd.C_below HR1.out HB.out)); (case side4 => exact HC1.out); rintro e w31 ⟨v313, rfl, ho0, hb⟩; refine ⟨_, rfl, ?_⟩; have n0_ := Aside0.mk (Kd.R_lower ho0 (below_size hbC)); have n1_ := Aside0.mk (blk_below (g := gb308) (o := .cells #[.int .i64 a0_0, .slice A0_1 l0_1.length c0_1] 28 (0, 0)) (bvK BK308.out) hb); have n2_ := Aside0.mk (below_step hbC hb); clear BK308; clear HB; have HO314 := n0_; have BK308 := n1_; have HB := n2_; clear n0_ n1_ n2_; (try clear hb); (try clear hb2); (try clear hk); (try clear hi); (try clear ho0); obtain ⟨Ao32, co32, eo32⟩ := Kd.R_slice HO314.out; subst eo32) | ((with_reducible refine gate_callee (f := 72) rfl ?_); refine goesL_ (some 32) rfl rfl Try.func72 (by kernel_rfl) rfl #[.slice Ao32 t312.length co32, .int .i64 a2] rfl lmB ?_; (with_reducible refine (impl_edgeOf.calls _ _ t312 a2 t315 _ ?side1 ?side2 A29.out).mono ?_); (case side1 => exact kcR (Kd.R_reads' HO314.out).2.2); (case side2 => exact (Kd.R_reads' HO314.out).2.1); rintro e w' ⟨rfl, ⟨nd, rfl⟩⟩; refine ⟨_, rfl, ?_⟩))
    go_ret
    exact ⟨ers, hbC⟩

end Go.Proofs.Ytpcckoljocpchaa.QFnAddPick
