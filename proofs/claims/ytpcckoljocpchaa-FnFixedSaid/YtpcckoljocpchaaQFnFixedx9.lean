-- Written by a program of this session (mk.py). Lean checks it.
import Derived.Test.YtpcckoljocpchaaQFnFixedx0
namespace Go.Proofs.Ytpcckoljocpchaa.QFnFixed
open Go.RowKit Go.Proofs.YtpcckoljocpchaaW.PrintWords Go.Proofs.YtpcckoljocpchaaW.PrintLast Go.Proofs.YtpcckoljocpchaaW.PrintMore
attribute [local go_sem] max2_int min2_int max_two min_two max_three min_three max_four min_four   -- for this text's walks alone
set_option linter.unusedVariables false
set_option linter.unusedSimpArgs false

/-! ### laws_wcHas: function 27 -/
def laws_wcHas.l0 : Nat → Int → List Int → Int → Int → Option (Bool)
 | 0, _, _, _, _ => none
 | k + 1, x1, x7, x8, x9 => if x9 < x8 then (if 0 ≤ x9 then (if x9 < (x7.length : Int) then (if (rd x7 x9) = x1 then (some true) else (laws_wcHas.l0 k x1 x7 x8 (wrap64 (x9 + 1)))) else (none)) else (none)) else (some false)
def laws_wcHas.f (k : Nat) (l0 : List Int) (a1 : Int) : Option (Bool) := laws_wcHas.l0 k a1 l0 (l0.length : Int) 0
theorem laws_wcHas.mono_l : ∀ k, (∀ y0 y1 y2 y3, LeO (laws_wcHas.l0 k y0 y1 y2 y3) (laws_wcHas.l0 (k + 1) y0 y1 y2 y3))
 | 0 => fun _ _ _ _ r h => by simp [laws_wcHas.l0] at h
 | k + 1 => by
  have ih0 := laws_wcHas.mono_l k
  ·intro y0 y1 y2 y3
   unfold laws_wcHas.l0
   repeat' first
   | (with_reducible exact ih0 _ _ _ _)
   | (with_reducible exact LeO.refl _)
   | (with_reducible exact LeO.none _)
   | (with_reducible refine LeO.ite ?_ ?_)
   | (with_reducible refine LeO.bind ?_ (fun _ => ?_))
   | exact ih0 _ _ _ _
   | exact LeO.none _
   | refine LeO.ite ?_ ?_
   | refine LeO.bind ?_ (fun _ => ?_)
theorem laws_wcHas.mono : ∀ a0 a1 k, LeO (laws_wcHas.f k a0 a1) (laws_wcHas.f (k + 1) a0 a1) := by
 intro a0 a1 k
 have ih0 := laws_wcHas.mono_l k
 unfold laws_wcHas.f
 repeat' first
   | (with_reducible exact ih0 _ _ _ _)
   | (with_reducible exact LeO.refl _)
   | (with_reducible exact LeO.none _)
   | (with_reducible refine LeO.ite ?_ ?_)
   | (with_reducible refine LeO.bind ?_ (fun _ => ?_))
   | exact ih0 _ _ _ _
   | exact LeO.none _
   | refine LeO.ite ?_ ?_
   | refine LeO.bind ?_ (fun _ => ?_)
set_option maxHeartbeats 8000000 in
set_option maxRecDepth 100000 in
theorem laws_wcHas.calls (k : Nat) (A0 : Option Addr) (c0 : Nat) (l0 : List Int) (a1 : Int) (r : Bool) (w : World) (hr0 : Kd.C (Kd.int .i64) w A0 l0.length l0) (hc0 : l0.length ≤ c0) (h : laws_wcHas.f k l0 a1 = some r) :
  Calls Try.prog 27 #[.slice A0 l0.length c0, .int .i64 a1] w fun e w' => e = .returned (.bool r) ∧ Drawn0 w w' := by
 have HR0 := Aside0.mk hr0
 have HC0 := Aside0.mk hc0
 clear hr0 hc0
 have H : (laws_wcHas.l0 k a1 l0 (l0.length : Int) 0) = some r := h
 clear h
 have H' := Aside0.mk H
 clear H
 go_enter Try.func27, Try.ntmps27
 go_wp2
 go_loopg [9] k (fun kq v9 w' => ∃ (x9_1 : Int), v9 = .int .i64 x9_1 ∧ Aside0 (laws_wcHas.l0 kq a1 l0 (l0.length : Int) x9_1 = some r) ∧ Aside0 (kq ≤ k) ∧ Drawn0 w w')
 case atStart => exact ⟨(0), rsd, H', ⟨Nat.le_refl _⟩, by repeat (first | exact Drawn0.refl _ | apply Drawn0.step)⟩
 case round =>
  clear H'
  try clear c2
  try clear p2
  obtain ⟨x9_1, rfl, HA, HK1, ⟨m1, rfl⟩⟩ := hrel
  cases gk with
  | zero => exact absurd HA.out (by simp [laws_wcHas.l0])
  | succ k1 =>
   have H := HA.out
   clear HA
   simp only [laws_wcHas.l0] at H
   by_cases c3 : x9_1 < (l0.length : Int)
   ·rw [if_pos c3] at H
    have c3b0 : decide (x9_1 < (l0.length : Int)) = true := decide_eq_true c3
    clear c3
    by_cases c4 : 0 ≤ x9_1
    ·rw [if_pos c4] at H
     have c4b0 : decide (0 ≤ x9_1) = true := decide_eq_true c4
     clear c4
     by_cases c5 : x9_1 < (l0.length : Int)
     ·rw [if_pos c5] at H
      have c5b0 : decide (x9_1 < (l0.length : Int)) = true := decide_eq_true c5
      clear c5
      by_cases c6 : (rd l0 x9_1) = a1
      ·rw [if_pos c6] at H
       have c6b0 : ((rd l0 x9_1) == a1) = true := beq_iff_eq.mpr c6
       have c6b1 : ((rd l0 x9_1) != a1) = false := bne_eq_false_iff_eq.mpr c6
       clear c6
       obtain rfl := Option.some.inj H
       have p286 : 0 ≤ (x9_1 : Int) := oda
       have q286 : x9_1 < (l0.length : Int) := oda
       obtain ⟨ad286, e286, hx286_0⟩ := Kd.at_int HR0.out x9_1 p286 q286
       cases e286
       replace p286 := eq_true p286
       replace q286 := eq_true q286
       go_wp2
       go_ret
       exact ⟨by first | rfl | (simp; done) | (simp [*]; done), by repeat (first | exact Drawn0.refl _ | apply Drawn0.step)⟩
      ·rw [if_neg c6] at H
       have c6b0 : ((rd l0 x9_1) == a1) = false := beq_eq_false_iff_ne.mpr c6
       have c6b1 : ((rd l0 x9_1) != a1) = true := bne_iff_ne.mpr c6
       have H' := Aside0.mk H
       clear H
       have p286 : 0 ≤ (x9_1 : Int) := oda
       have q286 : x9_1 < (l0.length : Int) := oda
       obtain ⟨ad286, e286, hx286_0⟩ := Kd.at_int HR0.out x9_1 p286 q286
       cases e286
       replace p286 := eq_true p286
       replace q286 := eq_true q286
       go_wp2
       go_roundg k1
       case measure => have := HK1.out; omega
       case rel => exact ⟨(wrap64 (x9_1 + 1)), rsd, H', ⟨by have := HK1.out; omega⟩, by repeat (first | exact Drawn0.refl _ | apply Drawn0.step)⟩
     ·rw [if_neg c5] at H
      exact absurd H (by simp)
    ·rw [if_neg c4] at H
     exact absurd H (by simp)
   ·rw [if_neg c3] at H
    have c3b0 : decide (x9_1 < (l0.length : Int)) = false := decide_eq_false c3
    clear c3
    obtain rfl := Option.some.inj H
    go_wp2
    go_ret
    exact ⟨by first | rfl | (simp; done) | (simp [*]; done), by repeat (first | exact Drawn0.refl _ | apply Drawn0.step)⟩

/-! ### impl_clone_int: function 70 -/
def impl_clone_int.f (l0 : List Int) : Option (List Int) := if l0.length ≤ 35184372088832 then some l0 else none
set_option maxHeartbeats 400000 in
set_option maxRecDepth 100000 in
theorem impl_clone_int.calls (A0 : Option Addr) (c0 : Nat) (l0 : List Int) (r : List Int) (w : World) (hr0 : Kd.C (Kd.int .i64) w A0 l0.length l0) (hc0 : l0.length ≤ c0) (h : impl_clone_int.f l0 = some r) :
  Calls Try.prog 70 #[.slice A0 l0.length c0] w fun e w' => ∃ v0_ : Value, e = .returned (v0_) ∧ Kd.R (Kd.int .i64) 3 w' w.heap.size (fun _ => True) v0_ r ∧ Below w.heap.size w w' := by
 unfold impl_clone_int.f at h
 by_cases c1 : l0.length ≤ 35184372088832
 ·rw [if_pos c1] at h
  obtain rfl := Option.some.inj h
  clear h
  have HR0 := Aside0.mk hr0
  have C1 := Aside0.mk c1
  clear hr0 c1
  by_cases c2 : l0.length = 0
  ·have c2b : ((l0.length : Int) == 0) = true := by rw [beq_iff_eq]; omega
   have HL := Aside0.mk (List.eq_nil_of_length_eq_zero c2)
   clear c2
   go_enter Try.func70, Try.ntmps70
   go_wp2
   go_ret
   exact ⟨_, rfl, by rw [HL.out]; exact Kd.R_nil _ _ _ _ _, Below.refl _ _⟩
  ·have c2b : ((l0.length : Int) == 0) = false := by rw [beq_eq_false_iff_ne]; omega
   have c2c : (l0.length == 0) = false := by rw [beq_eq_false_iff_ne]; omega
   go_enter Try.func70, Try.ntmps70
   go_wp2_with (first | ((with_reducible refine gate_dst (N := 9) rfl ?_); refine Kd.R_make (Kd.int .i64) _ 3 rfl (N := 9) rfl 38 _ _ rfl (l0.length : Int) rfl rfl Try.underlying38 (.int .i64 0) 8 info3 rfl (by decide) (by omega) 0 (ok := fun _ => True) (okp := fun _ => True) rfl (fun _ hk => hk) trivial (by omega) (by have := C1.out; omega) (Below.refl _ _) (Nat.le_refl _) ?_; intro v178 w4 ho5 hb hg_ hnew_; clear hg_ hnew_; have HO := Aside0.mk ho5; have HB := Aside0.mk hb; clear hb ho5) | ((with_reducible refine gate_dst (N := 12) rfl ?_); refine Copy.R_copy (w0 := w) (xs := List.replicate (l0.length : Int).toNat 0) (ys := l0) w.heap.size 3 rfl _ _ 38 38 rfl Try.underlying38 (by kernel_rfl) rfl rfl (by simp) HO.out (Kd.C_below HR0.out HB.out) HB.out ?_; intro w5 ho5 hb; clear HB; have HO5 := Aside0.mk ho5; have HB := Aside0.mk hb; clear hb ho5))
   go_ret
   exact ⟨_, rfl, HO5.out, HB.out⟩
 ·rw [if_neg c1] at h
  exact absurd h (by simp)

/-! ### impl_listOf: function 81 -/
def impl_listOf.l0 : Nat → List Int → List Bool → Int → Int → Option (List Int)
 | 0, _, _, _, _ => none
 | k + 1, x3, x6, x7, x8 => if x8 < x7 then (if 0 ≤ x8 then (if x8 < (x6.length : Int) then (if rdOf false x6 x8 = true then (if x3.length < 17592186044416 then (impl_listOf.l0 k (x3 ++ [x8]) x6 x7 (wrap64 (x8 + 1))) else (none)) else (impl_listOf.l0 k x3 x6 x7 (wrap64 (x8 + 1)))) else (none)) else (none)) else ((impl_clone_int.f x3).bind fun t291 => (some t291))
def impl_listOf.f (k : Nat) (l0 : List Bool) : Option (List Int) := impl_listOf.l0 k ([] : List Int) l0 (l0.length : Int) 0
theorem impl_listOf.mono_l : ∀ k, (∀ y0 y1 y2 y3, LeO (impl_listOf.l0 k y0 y1 y2 y3) (impl_listOf.l0 (k + 1) y0 y1 y2 y3))
 | 0 => fun _ _ _ _ r h => by simp [impl_listOf.l0] at h
 | k + 1 => by
  have ih0 := impl_listOf.mono_l k
  ·intro y0 y1 y2 y3
   unfold impl_listOf.l0
   repeat' first
   | (with_reducible exact ih0 _ _ _ _)
   | (with_reducible exact LeO.refl _)
   | (with_reducible exact LeO.none _)
   | (with_reducible refine LeO.ite ?_ ?_)
   | (with_reducible refine LeO.bind ?_ (fun _ => ?_))
   | exact ih0 _ _ _ _
   | exact LeO.none _
   | refine LeO.ite ?_ ?_
   | refine LeO.bind ?_ (fun _ => ?_)
theorem impl_listOf.mono : ∀ a0 k, LeO (impl_listOf.f k a0) (impl_listOf.f (k + 1) a0) := by
 intro a0 k
 have ih0 := impl_listOf.mono_l k
 unfold impl_listOf.f
 repeat' first
   | (with_reducible exact ih0 _ _ _ _)
   | (with_reducible exact LeO.refl _)
   | (with_reducible exact LeO.none _)
   | (with_reducible refine LeO.ite ?_ ?_)
   | (with_reducible refine LeO.bind ?_ (fun _ => ?_))
   | exact ih0 _ _ _ _
   | exact LeO.none _
   | refine LeO.ite ?_ ?_
   | refine LeO.bind ?_ (fun _ => ?_)
set_option maxHeartbeats 8000000 in
set_option maxRecDepth 100000 in
theorem impl_listOf.calls (k : Nat) (A0 : Option Addr) (c0 : Nat) (l0 : List Bool) (r : List Int) (w : World) (hr0 : Kd.C Kd.bool w A0 l0.length l0) (hc0 : l0.length ≤ c0) (h : impl_listOf.f k l0 = some r) :
  Calls Try.prog 81 #[.slice A0 l0.length c0] w fun e w' => ∃ v0_ : Value, e = .returned (v0_) ∧ Kd.R (Kd.int .i64) 3 w' w.heap.size (fun _ => True) v0_ r ∧ Below w.heap.size w w' := by
 have HR0 := Aside0.mk hr0
 have HC0 := Aside0.mk hc0
 clear hr0 hc0
 have HB := Aside0.mk (Below.refl w.heap.size w)
 have H : (impl_listOf.l0 k ([] : List Int) l0 (l0.length : Int) 0) = some r := h
 clear h
 have H' := Aside0.mk H
 clear H
 go_enter Try.func81, Try.ntmps81
 go_wp2
 go_loopg [3, 8] k (fun kq v3 v8 w' => ∃ (x3_1 : List Int) (x8_1 : Int), v8 = .int .i64 x8_1 ∧ Aside0 (impl_listOf.l0 kq x3_1 l0 (l0.length : Int) x8_1 = some r) ∧ Aside0 (kq ≤ k) ∧ Aside0 (Kd.R (Kd.int .i64) 3 w' w.heap.size (fun _ => True) v3 x3_1) ∧ Aside0 (Below w.heap.size w w'))
 case atStart => exact ⟨(([] : List Int)), (0), rsd, H', ⟨Nat.le_refl _⟩, ⟨by first | exact Kd.R_nil _ _ _ _ _ | exact Kd.N_nil _ _ _ _ _ | exact Kd.V_nil _ _ _ _ _ | exact Kd.Q_nil _ _ _ _ _ | exact Kd.S_nil _ _ _ _ _⟩, ⟨hbB⟩⟩
 case round =>
  clear H'
  obtain ⟨x3_1, x8_1, rfl, HA, HK1, HO_3, HB⟩ := hrel
  cases gk with
  | zero => exact absurd HA.out (by simp [impl_listOf.l0])
  | succ k1 =>
   have H := HA.out
   clear HA
   simp only [impl_listOf.l0] at H
   by_cases c2 : x8_1 < (l0.length : Int)
   ·rw [if_pos c2] at H
    have c2b0 : decide (x8_1 < (l0.length : Int)) = true := decide_eq_true c2
    clear c2
    by_cases c3 : 0 ≤ x8_1
    ·rw [if_pos c3] at H
     have c3b0 : decide (0 ≤ x8_1) = true := decide_eq_true c3
     clear c3
     by_cases c4 : x8_1 < (l0.length : Int)
     ·rw [if_pos c4] at H
      have c4b0 : decide (x8_1 < (l0.length : Int)) = true := decide_eq_true c4
      clear c4
      obtain ⟨bq5, hbq5⟩ : ∃ b_ : Bool, b_ = (rdOf false l0 x8_1) := ⟨_, rfl⟩
      replace H : (if bq5 = true then (if x3_1.length < 17592186044416 then (impl_listOf.l0 k1 (x3_1 ++ [x8_1]) l0 (l0.length : Int) (wrap64 (x8_1 + 1))) else (none)) else (impl_listOf.l0 k1 x3_1 l0 (l0.length : Int) (wrap64 (x8_1 + 1)))) = some r := by rw [← hbq5] at H; exact H
      have Nbq5 := Aside0.mk hbq5
      clear hbq5
      by_cases c6 : bq5 = true
      ·subst c6
       have H1 : (if x3_1.length < 17592186044416 then (impl_listOf.l0 k1 (x3_1 ++ [x8_1]) l0 (l0.length : Int) (wrap64 (x8_1 + 1))) else (none)) = some r := by rw [if_pos rfl] at H; exact H
       clear H
       have H := H1
       clear H1
       by_cases c7 : x3_1.length < 17592186044416
       ·rw [if_pos c7] at H
        have LMc7 := Aside0.mk c7
        clear c7
        obtain ⟨y288, hy288⟩ : ∃ y_ : List Int, y_ = (x3_1 ++ [x8_1]) := ⟨_, rfl⟩
        replace H : (impl_listOf.l0 k1 y288 l0 (l0.length : Int) (wrap64 (x8_1 + 1))) = some r := by first | (rw [hy288]; with_reducible exact H) | (have H2_ := (Option.bind_some _ _).symm.trans H; rw [hy288]; with_reducible exact H2_) | (have H2_ := (Option.bind_some _ _).symm.trans H; with_reducible exact H2_) | with_reducible exact H | (rw [hy288]; exact H) | exact H
        have Ny288 := Aside0.mk hy288
        clear hy288
        have H' := Aside0.mk H
        clear H
        have p287 : 0 ≤ (x8_1 : Int) := oda
        have q287 : x8_1 < (l0.length : Int) := oda
        obtain ⟨ad287, e287, hx287_0⟩ := Kd.at_bool HR0.out x8_1 p287 q287
        (try rw [← Nbq5.out] at hx287_0)
        cases e287
        try replace hx287_0 := bct HB.out hx287_0
        replace p287 := eq_true p287
        replace q287 := eq_true q287
        go_wp2_with (first | ((with_reducible refine gate_builtin (b := .append) (xs := #[.tmp 14, .tmp 16]) rfl ?_); at_builtin; refine Kd.R_append (Kd.int .i64) (w0 := w) w.heap.size rfl (.tmp 14) (.tmp 16) 38 3 (.int .i64 0) 8 rfl Try.underlying38 info3 rfl (by decide) (by omega) u3 x3_1 x8_1 [.int .i64 x8_1] (fun _ => True) (fun _ => False) rfl rfl ?aP (fun _ hk => hk.elim) ?aF ?aO ?aB ?aS ?aL ?_; (case aP => exact rfl); (case aB => exact hbB); (case aF => exact (fun _ _ => trivial)); (case aO => exact (rvR HO_3.out)); (case aS => exact (below_size hbB)); (case aL => have := LMc7.out; omega); intro v289 w8 ho hb hg hat; rw [← Ny288.out] at ho; have n0_ := Aside0.mk (hb); have n1_ := Aside0.mk (ho); clear HB; clear HO_3; have HB := n0_; have HO290 := n1_; clear n0_ n1_; clear ho hb hg hat))
        go_roundg k1
        case measure => have := HK1.out; omega
        case rel => exact ⟨(y288), (wrap64 (x8_1 + 1)), rsd, H', ⟨by have := HK1.out; omega⟩, ⟨rvR HO290.out⟩, ⟨hbB⟩⟩
       ·rw [if_neg c7] at H
        exact absurd H (by simp)
      ·replace c6 := Bool.eq_false_iff.mpr c6
       subst c6
       have H1 : (impl_listOf.l0 k1 x3_1 l0 (l0.length : Int) (wrap64 (x8_1 + 1))) = some r := by rw [if_neg (show ¬ (false = true) by decide)] at H; exact H
       clear H
       have H := H1
       clear H1
       have H' := Aside0.mk H
       clear H
       have p287 : 0 ≤ (x8_1 : Int) := oda
       have q287 : x8_1 < (l0.length : Int) := oda
       obtain ⟨ad287, e287, hx287_0⟩ := Kd.at_bool HR0.out x8_1 p287 q287
       (try rw [← Nbq5.out] at hx287_0)
       cases e287
       try replace hx287_0 := bct HB.out hx287_0
       replace p287 := eq_true p287
       replace q287 := eq_true q287
       go_wp2
       go_roundg k1
       case measure => have := HK1.out; omega
       case rel => exact ⟨(x3_1), (wrap64 (x8_1 + 1)), rsd, H', ⟨by have := HK1.out; omega⟩, ⟨rvR HO_3.out⟩, ⟨hbB⟩⟩
     ·rw [if_neg c4] at H
      exact absurd H (by simp)
    ·rw [if_neg c3] at H
     exact absurd H (by simp)
   ·rw [if_neg c2] at H
    have c2b0 : decide (x8_1 < (l0.length : Int)) = false := decide_eq_false c2
    clear c2
    replace H := Option.bind_eq_some_iff.mp H
    obtain ⟨t291, A90, H⟩ := H
    replace H : (some t291) = some r := H
    have A9 := Aside0.mk A90
    clear A90
    obtain rfl := Option.some.inj H
    obtain ⟨Ao10, co10, eo10⟩ := Kd.R_slice HO_3.out
    subst eo10
    go_wp2_with (first | ((with_reducible refine gate_callee (f := 70) rfl ?_); refine goesL_ (some 20) rfl rfl Try.func70 (by kernel_rfl) rfl #[.slice Ao10 x3_1.length co10] rfl lmB ?_; (with_reducible refine (impl_clone_int.calls _ _ x3_1 t291 _ ?side1 ?side2 A9.out).mono ?_); (case side1 => exact kcR (Kd.R_reads' HO_3.out).2.2); (case side2 => exact (Kd.R_reads' HO_3.out).2.1); rintro e w11 ⟨v292, rfl, ho0, hb⟩; refine ⟨_, rfl, ?_⟩; have n0_ := Aside0.mk (Kd.R_elder' (rvR HO_3.out) (Kd.R_base ho0) hb); have n1_ := Aside0.mk (Kd.R_lower (Kd.R_new' ho0 (Kd.R_lt (rvR HO_3.out))) (below_size hbB)); have n2_ := Aside0.mk (below_step hbB hb); clear HO_3; clear HB; have HO_3 := n0_; have HO293 := n1_; have HB := n2_; clear n0_ n1_ n2_; (try clear hb); (try clear hb2); (try clear hk); (try clear hi); (try clear ho0)))
    go_ret
    exact ⟨_, ers, by (with_reducible repeat (first | apply Kd.R_alloc | apply Kd.R_drewN | apply Kd.R_drew)); exact Kd.R_mono HO293.out (fun _ hk => trivial), hbB⟩

/-! ### impl_Circuit_needs: function 82 -/
def impl_Circuit_needs.l0 : Nat → List Bool → Int → Int → List (S92) → Option (List Bool)
 | 0, _, _, _, _ => none
 | k + 1, x5, x6, x295000, x295001 => if x6 ≥ 0 then (if 0 ≤ (wrap64 ((wrap64 (1 + x295000)) + x6)) then (if (wrap64 ((wrap64 (1 + x295000)) + x6)) < (x5.length : Int) then (if rdOf false x5 (wrap64 ((wrap64 (1 + x295000)) + x6)) = true then (if 0 ≤ x6 then (if x6 < (x295001.length : Int) then (if 0 ≤ (wrap64 (Int.tdiv ((rd_T92 x295001 x6).f0) 2)) then (if (wrap64 (Int.tdiv ((rd_T92 x295001 x6).f0) 2)) < (x5.length : Int) then (if 0 ≤ (wrap64 (Int.tdiv ((rd_T92 x295001 x6).f1) 2)) then (if (wrap64 (Int.tdiv ((rd_T92 x295001 x6).f1) 2)) < (x5.length : Int) then (impl_Circuit_needs.l0 k ((x5.set ((wrap64 (Int.tdiv ((rd_T92 x295001 x6).f0) 2)) : Int).toNat true).set ((wrap64 (Int.tdiv ((rd_T92 x295001 x6).f1) 2)) : Int).toNat true) (wrap64 (x6 - 1)) x295000 x295001) else (none)) else (none)) else (none)) else (none)) else (none)) else (none)) else (impl_Circuit_needs.l0 k x5 (wrap64 (x6 - 1)) x295000 x295001)) else (none)) else (none)) else (some x5)
def impl_Circuit_needs.f (k : Nat) (a0_0 : Int) (l0_1 : List (S92)) (a1 : Int) : Option (List Bool) := if 0 ≤ (wrap64 ((wrap64 (1 + a0_0)) + (l0_1.length : Int))) then (if (wrap64 ((wrap64 (1 + a0_0)) + (l0_1.length : Int)) : Int).toNat ≤ 281474976710656 then ((some (List.replicate (wrap64 ((wrap64 (1 + a0_0)) + (l0_1.length : Int)) : Int).toNat false : List Bool)).bind fun y295 => (if 0 ≤ (wrap64 (Int.tdiv a1 2)) then (if (wrap64 (Int.tdiv a1 2)) < (y295.length : Int) then (impl_Circuit_needs.l0 k (y295.set ((wrap64 (Int.tdiv a1 2)) : Int).toNat true) (wrap64 ((l0_1.length : Int) - 1)) a0_0 l0_1) else (none)) else (none))) else (none)) else (none)
theorem impl_Circuit_needs.mono_l : ∀ k, (∀ y0 y1 y2 y3, LeO (impl_Circuit_needs.l0 k y0 y1 y2 y3) (impl_Circuit_needs.l0 (k + 1) y0 y1 y2 y3))
 | 0 => fun _ _ _ _ r h => by simp [impl_Circuit_needs.l0] at h
 | k + 1 => by
  have ih0 := impl_Circuit_needs.mono_l k
  ·intro y0 y1 y2 y3
   unfold impl_Circuit_needs.l0
   repeat' first
   | (with_reducible exact ih0 _ _ _ _)
   | (with_reducible exact LeO.refl _)
   | (with_reducible exact LeO.none _)
   | (with_reducible refine LeO.ite ?_ ?_)
   | (with_reducible refine LeO.bind ?_ (fun _ => ?_))
   | exact ih0 _ _ _ _
   | exact LeO.none _
   | refine LeO.ite ?_ ?_
   | refine LeO.bind ?_ (fun _ => ?_)
theorem impl_Circuit_needs.mono : ∀ a0 a1 a2 k, LeO (impl_Circuit_needs.f k a0 a1 a2) (impl_Circuit_needs.f (k + 1) a0 a1 a2) := by
 intro a0 a1 a2 k
 have ih0 := impl_Circuit_needs.mono_l k
 unfold impl_Circuit_needs.f
 repeat' first
   | (with_reducible exact ih0 _ _ _ _)
   | (with_reducible exact LeO.refl _)
   | (with_reducible exact LeO.none _)
   | (with_reducible refine LeO.ite ?_ ?_)
   | (with_reducible refine LeO.bind ?_ (fun _ => ?_))
   | exact ih0 _ _ _ _
   | exact LeO.none _
   | refine LeO.ite ?_ ?_
   | refine LeO.bind ?_ (fun _ => ?_)
def impl_Circuit_needs.T7 : Bool × List (List Nat × List Nat) := (true, [([], []), ([], []), ([1], [1]), ([], []), ([2, 3], [2, 3]), ([4], [4]), ([5], [5]), ([6], [6]), ([], []), ([], []), ([9], [9]), ([], []), ([10, 11], [10, 11]), ([12], [12]), ([13], [13]), ([14], [14]), ([0, 7, 0, 1, 2, 3, 4, 5, 6, 7, 14], [0, 7]), ([16, 0, 1, 2, 3, 4, 5, 6, 7, 14], [16]), ([8, 15, 0, 1, 2, 3, 4, 5, 6, 7, 8, 9, 10, 11, 12, 13, 14, 15, 16, 17], [8, 15]), ([18, 17, 0, 1, 2, 3, 4, 5, 6, 7, 8, 9, 10, 11, 12, 13, 14, 15, 16, 17], [18])])
def impl_Circuit_needs.B7 : List Nat := [0, 0, 2, 0, 14, 30, 62, 126, 0, 0, 512, 0, 3584, 7680, 15872, 32256, 32511, 98047, 262143, 524287]
theorem impl_Circuit_needs.tab7 : rtab .any (opsOf Try.f82 7) = impl_Circuit_needs.T7 := by kernel_rfl
theorem impl_Circuit_needs.bits7 : waitsOk impl_Circuit_needs.T7.2 impl_Circuit_needs.B7 = true := by kernel_rfl
set_option maxHeartbeats 8000000 in
set_option maxRecDepth 100000 in
theorem impl_Circuit_needs.calls (k : Nat) (a0_0 : Int) (A0_1 : Option Addr) (c0_1 : Nat) (l0_1 : List (S92)) (a1 : Int) (r : List Bool) (w : World) (hr0_1 : Kd.C k92 w A0_1 l0_1.length l0_1) (hc0_1 : l0_1.length ≤ c0_1) (h : impl_Circuit_needs.f k a0_0 l0_1 a1 = some r) :
  Calls Try.prog 82 #[.agg #[.int .i64 a0_0, .slice A0_1 l0_1.length c0_1], .int .i64 a1] w fun e w' => ∃ v0_ : Value, e = .returned (v0_) ∧ Kd.R Kd.bool 4 w' w.heap.size (fun _ => True) v0_ r ∧ Below w.heap.size w w' := by
 have hu28 := Try.underlying28
 have HR0_1 := Aside0.mk hr0_1
 have HC0_1 := Aside0.mk hc0_1
 clear hr0_1 hc0_1
 have HB := Aside0.mk (Below.refl w.heap.size w)
 have H : (if 0 ≤ (wrap64 ((wrap64 (1 + a0_0)) + (l0_1.length : Int))) then (if (wrap64 ((wrap64 (1 + a0_0)) + (l0_1.length : Int)) : Int).toNat ≤ 281474976710656 then ((some (List.replicate (wrap64 ((wrap64 (1 + a0_0)) + (l0_1.length : Int)) : Int).toNat false : List Bool)).bind fun y295 => (if 0 ≤ (wrap64 (Int.tdiv a1 2)) then (if (wrap64 (Int.tdiv a1 2)) < (y295.length : Int) then (impl_Circuit_needs.l0 k (y295.set ((wrap64 (Int.tdiv a1 2)) : Int).toNat true) (wrap64 ((l0_1.length : Int) - 1)) a0_0 l0_1) else (none)) else (none))) else (none)) else (none)) = some r := h
 clear h
 obtain ⟨ji3, hji3⟩ : ∃ j_ : Int, (wrap64 ((wrap64 (1 + a0_0)) + (l0_1.length : Int))) = j_ := ⟨_, rfl⟩
 replace H : (if 0 ≤ (ji3) then (if (ji3 : Int).toNat ≤ 281474976710656 then ((some (List.replicate (ji3 : Int).toNat false : List Bool)).bind fun y295 => (if 0 ≤ (wrap64 (Int.tdiv a1 2)) then (if (wrap64 (Int.tdiv a1 2)) < (y295.length : Int) then (impl_Circuit_needs.l0 k (y295.set ((wrap64 (Int.tdiv a1 2)) : Int).toNat true) (wrap64 ((l0_1.length : Int) - 1)) a0_0 l0_1) else (none)) else (none))) else (none)) else (none)) = some r := by first | (rw [hji3] at H; exact H) | (simp only [hji3] at H ⊢; exact H)
 have hji3w : (IntKind.i64.wrap ((wrap64 (1 + a0_0)) + (l0_1.length : Int))) = ji3 := (i64_w _).trans hji3
 by_cases c4 : 0 ≤ (ji3)
 ·rw [if_pos c4] at H
  have c4b0 := eq_true c4
  have c4b1 : decide (0 ≤ (ji3)) = true := decide_eq_true c4
  clear c4
  by_cases c5 : (ji3 : Int).toNat ≤ 281474976710656
  ·rw [if_pos c5] at H
   have c5b0 := eq_true c5
   have c5b1 : decide ((ji3 : Int).toNat ≤ 281474976710656) = true := decide_eq_true c5
   clear c5
   obtain ⟨y295, hy295⟩ : ∃ y_ : List Bool, y_ = (List.replicate (ji3 : Int).toNat false) := ⟨_, rfl⟩
   replace H : (if 0 ≤ (wrap64 (Int.tdiv a1 2)) then (if (wrap64 (Int.tdiv a1 2)) < (y295.length : Int) then (impl_Circuit_needs.l0 k (y295.set ((wrap64 (Int.tdiv a1 2)) : Int).toNat true) (wrap64 ((l0_1.length : Int) - 1)) a0_0 l0_1) else (none)) else (none)) = some r := by first | (rw [hy295]; with_reducible exact H) | (have H2_ := (Option.bind_some _ _).symm.trans H; rw [hy295]; with_reducible exact H2_) | (have H2_ := (Option.bind_some _ _).symm.trans H; with_reducible exact H2_) | with_reducible exact H | (rw [hy295]; exact H) | exact H
   have Ny295 := Aside0.mk hy295
   clear hy295
   obtain ⟨ji6, hji6⟩ : ∃ j_ : Int, (wrap64 (Int.tdiv a1 2)) = j_ := ⟨_, rfl⟩
   replace H : (if 0 ≤ (ji6) then (if (ji6) < (y295.length : Int) then (impl_Circuit_needs.l0 k (y295.set ((ji6) : Int).toNat true) (wrap64 ((l0_1.length : Int) - 1)) a0_0 l0_1) else (none)) else (none)) = some r := by first | (rw [hji6] at H; exact H) | (simp only [hji6] at H ⊢; exact H)
   have hji6w : (IntKind.i64.wrap (Int.tdiv a1 2)) = ji6 := (i64_w _).trans hji6
   by_cases c7 : 0 ≤ (ji6)
   ·rw [if_pos c7] at H
    have c7b0 : decide (0 ≤ (ji6)) = true := decide_eq_true c7
    clear c7
    by_cases c8 : (ji6) < (y295.length : Int)
    ·rw [if_pos c8] at H
     have c8b0 : decide ((ji6) < (y295.length : Int)) = true := decide_eq_true c8
     clear c8
     obtain ⟨y298, hy298⟩ : ∃ y_ : List Bool, y_ = (y295.set ((ji6) : Int).toNat true) := ⟨_, rfl⟩
     replace H : (impl_Circuit_needs.l0 k y298 (wrap64 ((l0_1.length : Int) - 1)) a0_0 l0_1) = some r := by first | (rw [hy298]; with_reducible exact H) | (have H2_ := (Option.bind_some _ _).symm.trans H; rw [hy298]; with_reducible exact H2_) | (have H2_ := (Option.bind_some _ _).symm.trans H; with_reducible exact H2_) | with_reducible exact H | (rw [hy298]; exact H) | exact H
     have Ny298 := Aside0.mk hy298
     clear hy298
     have H' := Aside0.mk H
     clear H
     go_enter Try.func82, Try.ntmps82
     go_wp2_with (first | ((with_reducible refine gate_dst (N := 2) rfl ?_); refine box_event ?hg (N := 2) ?hd (cs := #[.int .i64 a0_0, .slice A0_1 l0_1.length c0_1]) (t := 28) ?hr ?_; (case hd => rfl); (case hg => rfl); (case hr => first | (go_simp; done) | (go_simp; rfl)); intro gb294 hg w10 hbox hb; have n0_ := Aside0.mk (below_step hbB hb); have n1_ := Aside0.mk (hbox); have n2_ := Aside0.mk ((gwb hg (below_size hbB) : w.heap.size ≤ gb294)); have n3_ := n2_; clear HB; have HB := n0_; have BK294 := n1_; have GW294 := n2_; have GE294 := n3_; clear n0_ n1_ n2_ n3_; clear hb hbox hg; have hcz11_0 : w10.cell? ⟨gb294, 0, none⟩ = some (.int .i64 a0_0) := (blk_cell BK294.out 0).trans rfl; have hcz11_1 : w10.cell? ⟨gb294, 1, none⟩ = some (.slice A0_1 l0_1.length c0_1) := (blk_cell BK294.out 1).trans rfl; have hfz11_0 := blk_frozen BK294.out 0; have hfz11_1 := blk_frozen BK294.out 1) | ((with_reducible refine gate_dst (N := 14) rfl ?_); refine Kd.R_make Kd.bool _ 4 rfl (N := 14) rfl 99 _ _ rfl ji3 rfl rfl Try.underlying99 (.bool false) 1 info4 rfl (by decide) (by omega) false (ok := fun _ => True) (okp := fun _ => True) rfl (fun _ hk => hk) trivial (oda) (Nat.le_trans (Nat.mul_le_mul_right _ (oda : ji3.toNat ≤ 281474976710656)) (by omega)) (Below.refl _ _) (Nat.le_refl _) ?_; intro v296 w12 ho13 hb hg_ hnew_; clear hg_ hnew_; (first | rw [← Ny295.out] at ho13 | (simp only [Int.reduceToNat] at ho13; rw [← Ny295.out] at ho13)); have n0_ := Aside0.mk (Kd.R_lower ho13 (below_size hbC)); have n1_ := Aside0.mk (blk_below (g := gb294) (o := .cells #[.int .i64 a0_0, .slice A0_1 l0_1.length c0_1] 28 (0, 0)) (bvK BK294.out) hb); have n2_ := Aside0.mk (below_step hbC hb); clear BK294; clear HB; have HO297 := n0_; have BK294 := n1_; have HB := n2_; clear n0_ n1_ n2_; clear hb ho13; have p9 : 0 ≤ ((ji6) : Int) := oda; have q9 : ((ji6) : Int) < ((y295.length : Int) : Int) := oda; obtain ⟨go9, co9, eo9, gb9, gl9, cl9, HG9⟩ := Kd.R_form HO297.out (by first | omega | (have e_ := (Kd.R_reads' HO297.out).1; omega)); (first | cases eo9 | (injection eo9 with ea_ en_ ec_; (first | subst ea_ | (injection ea_ with ea_; subst ea_)); subst ec_; clear en_)); have GB9 := Aside0.mk gb9; have GG9 := Aside0.mk HG9; clear gb9 gl9 HG9; obtain ⟨hx9_0, hf9_0⟩ := Kd.R_celln false HO297.out ((ji6) : Int) p9 q9; replace p9 := eq_true p9; replace q9 := eq_true q9; obtain ⟨hy14_, hz14_⟩ := Kd.R_celln false HO297.out ((ji6) : Int) (oda) (oda); have HP14 := Kd.R_putg HO297.out ((ji6) : Int) true) | ((with_reducible refine gate_store (t := 4) (p := 18) rfl ?_); refine store_event (t := 4) (p := 18) (v := ?vo_w15) (w1 := (w12.setCell ⟨go9, ((ji6) : Int).toNat, none⟩ (.bool true))) ?hg ?ho ?hn ?hr ?_; (case ho => rfl); (case hg => rfl); (case hn => rfl); (case hr => first | (go_simp; done) | (go_simp; rfl)); intro w15 hw; have hg : w12.grownBy w15 (some go9) := (by rw [hw]; exact HP14.2); have hp_ : Kd.R Kd.bool 4 w15 w.heap.size (fun _ => True) (.slice (some ⟨go9, 0, none⟩) y295.length co9) y298 := (by rw [hw, Ny298.out]; exact HP14.1); clear HP14; have n0_ := Aside0.mk (blk_grown (g := gb294) (o := .cells #[.int .i64 a0_0, .slice A0_1 l0_1.length c0_1] 28 (0, 0)) (bvK BK294.out) hg (Kd.R_ne HO297.out BK294.out (by decide))); have n1_ := Aside0.mk (hp_); have n2_ := Aside0.mk ((by rw [hw]; exact below_set (HB.out) GB9.out : Below w.heap.size w w15)); clear BK294; clear HO297; clear HB; have BK294 := n0_; have HO297 := n1_; have HB := n2_; clear n0_ n1_ n2_; clear hg hw hp_; have hcz16_0 : w15.cell? ⟨gb294, 0, none⟩ = some (.int .i64 a0_0) := (blk_cell BK294.out 0).trans rfl; have hcz16_1 : w15.cell? ⟨gb294, 1, none⟩ = some (.slice A0_1 l0_1.length c0_1) := (blk_cell BK294.out 1).trans rfl; have hfz16_0 := blk_frozen BK294.out 0; have hfz16_1 := blk_frozen BK294.out 1))
     go_loopg [6] k (fun kq v6 w' => ∃ (x5_1 : List Bool) (x6_1 : Int), v6 = .int .i64 x6_1 ∧ Aside0 (impl_Circuit_needs.l0 kq x5_1 x6_1 a0_0 l0_1 = some r) ∧ Aside0 (kq ≤ k) ∧ Aside0 (Kd.R Kd.bool 4 w' w.heap.size (fun _ => True) (.slice (some ⟨go9, 0, none⟩) y295.length co9) x5_1) ∧ Aside0 (w'.heap[gb294]? = some (.cells #[.int .i64 a0_0, (.slice A0_1 l0_1.length c0_1)] 28 (0, 0))) ∧ Aside0 (Below w.heap.size w w'))
     case atStart => exact ⟨(y298), (wrap64 ((l0_1.length : Int) - 1)), rsd, H', ⟨Nat.le_refl _⟩, ⟨rvR HO297.out⟩, ⟨bvK BK294.out⟩, ⟨hbC⟩⟩
     case round =>
      clear H'
      try clear p2
      try clear c4
      try clear c4b0
      try clear c4b1
      try clear c5
      try clear c5b0
      try clear c5b1
      try clear p6
      try clear c7
      try clear c7b0
      try clear c8
      try clear c8b0
      try clear p9
      try clear q9
      try clear hx9
      try clear hf9
      try clear hcz11_0
      try clear hcz11_1
      try clear hcz16_0
      try clear hcz16_1
      try clear hfz11_0
      try clear hfz11_1
      try clear hfz16_0
      try clear hfz16_1
      try clear hx9_0
      try clear p9
      try clear q9
      obtain ⟨x5_1, x6_1, rfl, HA, HK1, HO_5, BK294, HB⟩ := hrel
      have hl5_1 := (Kd.R_reads' HO_5.out).1
      rw [hl5_1] at HO_5
      (try simp only [hl5_1])
      (try simp only [hl5_1] at BK294)
      cases gk with
      | zero => exact absurd HA.out (by simp [impl_Circuit_needs.l0])
      | succ k1 =>
       have H := HA.out
       clear HA
       simp only [impl_Circuit_needs.l0] at H
       by_cases c17 : x6_1 ≥ 0
       ·rw [if_pos c17] at H
        have c17b0 : decide (0 ≤ x6_1) = true := decide_eq_true c17
        clear c17
        obtain ⟨ji18, hji18⟩ : ∃ j_ : Int, (wrap64 ((wrap64 (1 + a0_0)) + x6_1)) = j_ := ⟨_, rfl⟩
        replace H : (if 0 ≤ (ji18) then (if (ji18) < (x5_1.length : Int) then (if rdOf false x5_1 (ji18) = true then (if 0 ≤ x6_1 then (if x6_1 < (l0_1.length : Int) then (if 0 ≤ (wrap64 (Int.tdiv ((rd_T92 l0_1 x6_1).f0) 2)) then (if (wrap64 (Int.tdiv ((rd_T92 l0_1 x6_1).f0) 2)) < (x5_1.length : Int) then (if 0 ≤ (wrap64 (Int.tdiv ((rd_T92 l0_1 x6_1).f1) 2)) then (if (wrap64 (Int.tdiv ((rd_T92 l0_1 x6_1).f1) 2)) < (x5_1.length : Int) then (impl_Circuit_needs.l0 k1 ((x5_1.set ((wrap64 (Int.tdiv ((rd_T92 l0_1 x6_1).f0) 2)) : Int).toNat true).set ((wrap64 (Int.tdiv ((rd_T92 l0_1 x6_1).f1) 2)) : Int).toNat true) (wrap64 (x6_1 - 1)) a0_0 l0_1) else (none)) else (none)) else (none)) else (none)) else (none)) else (none)) else (impl_Circuit_needs.l0 k1 x5_1 (wrap64 (x6_1 - 1)) a0_0 l0_1)) else (none)) else (none)) = some r := by first | (rw [hji18] at H; exact H) | (simp only [hji18] at H ⊢; exact H)
        have hji18w : (IntKind.i64.wrap ((wrap64 (1 + a0_0)) + x6_1)) = ji18 := (i64_w _).trans hji18
        by_cases c19 : 0 ≤ (ji18)
        ·rw [if_pos c19] at H
         have c19b0 : decide (0 ≤ (ji18)) = true := decide_eq_true c19
         clear c19
         by_cases c20 : (ji18) < (x5_1.length : Int)
         ·rw [if_pos c20] at H
          have c20b0 : decide ((ji18) < (x5_1.length : Int)) = true := decide_eq_true c20
          clear c20
          obtain ⟨bq21, hbq21⟩ : ∃ b_ : Bool, b_ = (rdOf false x5_1 (ji18)) := ⟨_, rfl⟩
          replace H : (if bq21 = true then (if 0 ≤ x6_1 then (if x6_1 < (l0_1.length : Int) then (if 0 ≤ (wrap64 (Int.tdiv ((rd_T92 l0_1 x6_1).f0) 2)) then (if (wrap64 (Int.tdiv ((rd_T92 l0_1 x6_1).f0) 2)) < (x5_1.length : Int) then (if 0 ≤ (wrap64 (Int.tdiv ((rd_T92 l0_1 x6_1).f1) 2)) then (if (wrap64 (Int.tdiv ((rd_T92 l0_1 x6_1).f1) 2)) < (x5_1.length : Int) then (impl_Circuit_needs.l0 k1 ((x5_1.set ((wrap64 (Int.tdiv ((rd_T92 l0_1 x6_1).f0) 2)) : Int).toNat true).set ((wrap64 (Int.tdiv ((rd_T92 l0_1 x6_1).f1) 2)) : Int).toNat true) (wrap64 (x6_1 - 1)) a0_0 l0_1) else (none)) else (none)) else (none)) else (none)) else (none)) else (none)) else (impl_Circuit_needs.l0 k1 x5_1 (wrap64 (x6_1 - 1)) a0_0 l0_1)) = some r := by rw [← hbq21] at H; exact H
          have Nbq21 := Aside0.mk hbq21
          clear hbq21
          by_cases c22 : bq21 = true
          ·subst c22
           have H1 : (if 0 ≤ x6_1 then (if x6_1 < (l0_1.length : Int) then (if 0 ≤ (wrap64 (Int.tdiv ((rd_T92 l0_1 x6_1).f0) 2)) then (if (wrap64 (Int.tdiv ((rd_T92 l0_1 x6_1).f0) 2)) < (x5_1.length : Int) then (if 0 ≤ (wrap64 (Int.tdiv ((rd_T92 l0_1 x6_1).f1) 2)) then (if (wrap64 (Int.tdiv ((rd_T92 l0_1 x6_1).f1) 2)) < (x5_1.length : Int) then (impl_Circuit_needs.l0 k1 ((x5_1.set ((wrap64 (Int.tdiv ((rd_T92 l0_1 x6_1).f0) 2)) : Int).toNat true).set ((wrap64 (Int.tdiv ((rd_T92 l0_1 x6_1).f1) 2)) : Int).toNat true) (wrap64 (x6_1 - 1)) a0_0 l0_1) else (none)) else (none)) else (none)) else (none)) else (none)) else (none)) = some r := by rw [if_pos rfl] at H; exact H
           clear H
           have H := H1
           clear H1
           by_cases c23 : 0 ≤ x6_1
           ·rw [if_pos c23] at H
            have c23b0 : decide (0 ≤ x6_1) = true := decide_eq_true c23
            clear c23
            by_cases c24 : x6_1 < (l0_1.length : Int)
            ·rw [if_pos c24] at H
             have c24b0 : decide (x6_1 < (l0_1.length : Int)) = true := decide_eq_true c24
             clear c24
             obtain ⟨ji25, hji25⟩ : ∃ j_ : Int, (wrap64 (Int.tdiv ((rd_T92 l0_1 x6_1).f0) 2)) = j_ := ⟨_, rfl⟩
             replace H : (if 0 ≤ (ji25) then (if (ji25) < (x5_1.length : Int) then (if 0 ≤ (wrap64 (Int.tdiv ((rd_T92 l0_1 x6_1).f1) 2)) then (if (wrap64 (Int.tdiv ((rd_T92 l0_1 x6_1).f1) 2)) < (x5_1.length : Int) then (impl_Circuit_needs.l0 k1 ((x5_1.set ((ji25) : Int).toNat true).set ((wrap64 (Int.tdiv ((rd_T92 l0_1 x6_1).f1) 2)) : Int).toNat true) (wrap64 (x6_1 - 1)) a0_0 l0_1) else (none)) else (none)) else (none)) else (none)) = some r := by first | (rw [hji25] at H; exact H) | (simp only [hji25] at H ⊢; exact H)
             have hji25w : (IntKind.i64.wrap (Int.tdiv ((rd_T92 l0_1 x6_1).f0) 2)) = ji25 := (i64_w _).trans hji25
             by_cases c26 : 0 ≤ (ji25)
             ·rw [if_pos c26] at H
              have c26b0 : decide (0 ≤ (ji25)) = true := decide_eq_true c26
              clear c26
              by_cases c27 : (ji25) < (x5_1.length : Int)
              ·rw [if_pos c27] at H
               have c27b0 : decide ((ji25) < (x5_1.length : Int)) = true := decide_eq_true c27
               clear c27
               obtain ⟨y302, hy302⟩ : ∃ y_ : List Bool, y_ = (x5_1.set ((ji25) : Int).toNat true) := ⟨_, rfl⟩
               replace H : (if 0 ≤ (wrap64 (Int.tdiv ((rd_T92 l0_1 x6_1).f1) 2)) then (if (wrap64 (Int.tdiv ((rd_T92 l0_1 x6_1).f1) 2)) < (x5_1.length : Int) then (impl_Circuit_needs.l0 k1 (y302.set ((wrap64 (Int.tdiv ((rd_T92 l0_1 x6_1).f1) 2)) : Int).toNat true) (wrap64 (x6_1 - 1)) a0_0 l0_1) else (none)) else (none)) = some r := by first | (rw [hy302]; with_reducible exact H) | (have H2_ := (Option.bind_some _ _).symm.trans H; rw [hy302]; with_reducible exact H2_) | (have H2_ := (Option.bind_some _ _).symm.trans H; with_reducible exact H2_) | with_reducible exact H | (rw [hy302]; exact H) | exact H
               have Ny302 := Aside0.mk hy302
               clear hy302
               obtain ⟨ji29, hji29⟩ : ∃ j_ : Int, (wrap64 (Int.tdiv ((rd_T92 l0_1 x6_1).f1) 2)) = j_ := ⟨_, rfl⟩
               replace H : (if 0 ≤ (ji29) then (if (ji29) < (x5_1.length : Int) then (impl_Circuit_needs.l0 k1 (y302.set ((ji29) : Int).toNat true) (wrap64 (x6_1 - 1)) a0_0 l0_1) else (none)) else (none)) = some r := by first | (rw [hji29] at H; exact H) | (simp only [hji29] at H ⊢; exact H)
               have hji29w : (IntKind.i64.wrap (Int.tdiv ((rd_T92 l0_1 x6_1).f1) 2)) = ji29 := (i64_w _).trans hji29
               by_cases c30 : 0 ≤ (ji29)
               ·rw [if_pos c30] at H
                have c30b0 : decide (0 ≤ (ji29)) = true := decide_eq_true c30
                clear c30
                by_cases c31 : (ji29) < (x5_1.length : Int)
                ·rw [if_pos c31] at H
                 have c31b0 : decide ((ji29) < (x5_1.length : Int)) = true := decide_eq_true c31
                 clear c31
                 obtain ⟨y303, hy303⟩ : ∃ y_ : List Bool, y_ = (y302.set ((ji29) : Int).toNat true) := ⟨_, rfl⟩
                 replace H : (impl_Circuit_needs.l0 k1 y303 (wrap64 (x6_1 - 1)) a0_0 l0_1) = some r := by first | (rw [hy303]; with_reducible exact H) | (have H2_ := (Option.bind_some _ _).symm.trans H; rw [hy303]; with_reducible exact H2_) | (have H2_ := (Option.bind_some _ _).symm.trans H; with_reducible exact H2_) | with_reducible exact H | (rw [hy303]; exact H) | exact H
                 have Ny303 := Aside0.mk hy303
                 clear hy303
                 have H' := Aside0.mk H
                 clear H
                 have hcz33_0 : wr.cell? ⟨gb294, 0, none⟩ = some (.int .i64 a0_0) := (blk_cell BK294.out 0).trans rfl
                 have hcz33_1 : wr.cell? ⟨gb294, 1, none⟩ = some (.slice A0_1 l0_1.length c0_1) := (blk_cell BK294.out 1).trans rfl
                 have hfz33_0 := blk_frozen BK294.out 0
                 have hfz33_1 := blk_frozen BK294.out 1
                 have p299 : 0 ≤ ((ji18) : Int) := oda
                 have q299 : (ji18) < (x5_1.length : Int) := oda
                 obtain ⟨ad299, e299, hx299_0⟩ := Kd.at_bool (Kd.R_reads' HO_5.out).2.2 (ji18) p299 q299
                 (try rw [← Nbq21.out] at hx299_0)
                 obtain rfl : (⟨go9, 0, none⟩ : Addr) = ad299 := (by injection e299)
                 (first | simp only [add_plain] at hx299_0 | simp only [add_at] at hx299_0 | simp only [Addr.add, Nat.zero_add] at hx299_0 | skip)
                 replace p299 := eq_true p299
                 replace q299 := eq_true q299
                 try go_wp2
                 have n0_ := Aside0.mk (Kd.R_drew HO_5.out)
                 have n1_ := Aside0.mk (blk_drew BK294.out)
                 have n2_ := Aside0.mk (below_drew1 HB.out)
                 clear HO_5
                 clear BK294
                 clear HB
                 have HO_5 := n0_
                 have BK294 := n1_
                 have HB := n2_
                 clear n0_ n1_ n2_
                 have p300 : 0 ≤ (x6_1 : Int) := oda
                 have q300 : x6_1 < (l0_1.length : Int) := oda
                 obtain ⟨ad300, e300, hx300_0, hx300_1⟩ := at_T92 HR0_1.out x6_1 p300 q300
                 have hw300_1 := hx300_1
                 have hw300_0 := hx300_0
                 cases e300
                 try replace hx300_0 := bct HB.out hx300_0
                 try replace hx300_1 := bct HB.out hx300_1
                 replace p300 := eq_true p300
                 replace q300 := eq_true q300
                 have p301 : 0 ≤ (x6_1 : Int) := oda
                 have q301 : x6_1 < (l0_1.length : Int) := oda
                 obtain ⟨ad301, e301, hx301_0, hx301_1⟩ := at_T92 HR0_1.out x6_1 p301 q301
                 have hw301_1 := hx301_1
                 have hw301_0 := hx301_0
                 obtain rfl : ad300 = ad301 := (by injection e301)
                 try replace hx301_0 := bct HB.out hx301_0
                 try replace hx301_1 := bct HB.out hx301_1
                 replace p301 := eq_true p301
                 replace q301 := eq_true q301
                 have p28 : 0 ≤ ((ji25) : Int) := oda
                 have q28 : ((ji25) : Int) < ((x5_1.length : Int) : Int) := oda
                 obtain ⟨hx28_0, hf28_0⟩ := Kd.R_celln false HO_5.out ((ji25) : Int) p28 q28
                 replace p28 := eq_true p28
                 replace q28 := eq_true q28
                 have HP35 := Kd.R_putn HO_5.out ((ji25) : Int) true
                 rw [← Ny302.out] at HP35
                 have HQ35 := Aside0.mk HP35
                 clear HP35
                 have p32 : 0 ≤ ((ji29) : Int) := oda
                 have q32 : ((ji29) : Int) < ((x5_1.length : Int) : Int) := oda
                 obtain ⟨hx32_0, hf32_0⟩ := Kd.R_celln false HQ35.out ((ji29) : Int) p32 q32
                 replace p32 := eq_true p32
                 replace q32 := eq_true q32
                 have HP36 := Kd.R_putn HQ35.out ((ji29) : Int) true
                 rw [← Ny303.out] at HP36
                 have HQ36 := Aside0.mk HP36
                 clear HP36
                 refine start_ (n := 20) (S := fun w' => w'.cell? ⟨gb294, 0, none⟩ = some (.int .i64 a0_0) ∧ w'.cell? ⟨gb294, 1, none⟩ = some (.slice (some ad300) l0_1.length c0_1) ∧ w'.cell? (ad300.add ((x6_1).toNat * 2)) = some (.int .i64 ((rd_T92 l0_1 x6_1).f0)) ∧ w'.cell? ⟨(ad300.add ((x6_1).toNat * 2)).block, (ad300.add ((x6_1).toNat * 2)).off + 1, none⟩ = some (.int .i64 ((rd_T92 l0_1 x6_1).f1)) ∧ w'.cell? (ad300.add ((x6_1).toNat * 2)) = some (.int .i64 ((rd_T92 l0_1 x6_1).f0)) ∧ w'.cell? ⟨(ad300.add ((x6_1).toNat * 2)).block, (ad300.add ((x6_1).toNat * 2)).off + 1, none⟩ = some (.int .i64 ((rd_T92 l0_1 x6_1).f1))) (ds := [17, 19]) (Pt.bm 20 0) (by kernel_rfl) rfl rfl ⟨(blk_cell BK294.out 0).trans rfl, (blk_cell BK294.out 1).trans rfl, ((HB.out.cell (World.block_lt_of_cell? w _ hw300_0)).trans hw300_0), ((HB.out.cell (World.block_lt_of_cell? w _ hw300_1)).trans hw300_1), ((HB.out.cell (World.block_lt_of_cell? w _ hw301_0)).trans hw301_0), ((HB.out.cell (World.block_lt_of_cell? w _ hw301_1)).trans hw301_1)⟩ (fun hHeld => ?_); refine with_tabW impl_Circuit_needs.tab7 impl_Circuit_needs.bits7 (fun HT_ HW_ => ?_)
                 generalize wr.drew = w34 at HO_5 BK294 HB HQ35 HQ36 hf28_0 hf32_0 hx28_0 hx300_0 hx300_1 hx301_0 hx301_1 hx32_0 hHeld ⊢
                 refine Pt.pu 0 (some 35) (Pt.bm 20 1) (any_of HT_.out (by kernel_rfl)) ?_
                 refine Pt.pu 1 (some 36) (Pt.bm 20 3) (any_of HT_.out (by kernel_rfl)) ?_
                 refine Pt.pu 3 (some 38) (Pt.bm 20 11) (any_of HT_.out (by kernel_rfl)) ?_
                 refine Pt.pu 8 (some 43) (Pt.bm 20 267) (any_of HT_.out (by kernel_rfl)) ?_
                 refine Pt.pu 9 (some 44) (Pt.bm 20 779) (any_of HT_.out (by kernel_rfl)) ?_
                 refine Pt.pu 11 (some 46) (Pt.bm 20 2827) (any_of HT_.out (by kernel_rfl)) ?_
                 refine Pt.tk 2 (some 37) (Pt.bm 20 2831) rfl rfl (take_ofW HT_.out HW_.out (by kernel_rfl)) hHeld (Or.inl ⟨by rfl, by rintro w' ⟨s0, s1, s2, s3, s4, s5⟩; go_simp; with_reducible rfl⟩) ?_
                 refine Pt.pu 4 (some 39) (Pt.bm 20 2847) (any_of HT_.out (by kernel_rfl)) ?_
                 refine Pt.pu 5 (some 40) (Pt.bm 20 2879) (any_of HT_.out (by kernel_rfl)) ?_
                 refine Pt.tk 6 (some 41) (Pt.bm 20 2943) rfl rfl (take_ofW HT_.out HW_.out (by kernel_rfl)) hHeld (Or.inl ⟨by rfl, by rintro w' ⟨s0, s1, s2, s3, s4, s5⟩; go_simp; with_reducible rfl⟩) ?_
                 refine Pt.pu 7 (some 42) (Pt.bm 20 3071) (any_of HT_.out (by kernel_rfl)) ?_
                 refine Pt.tk 10 (some 45) (Pt.bm 20 4095) rfl rfl (take_ofW HT_.out HW_.out (by kernel_rfl)) hHeld (Or.inl ⟨by rfl, by rintro w' ⟨s0, s1, s2, s3, s4, s5⟩; go_simp; with_reducible rfl⟩) ?_
                 refine Pt.pu 12 (some 47) (Pt.bm 20 8191) (any_of HT_.out (by kernel_rfl)) ?_
                 refine Pt.pu 13 (some 48) (Pt.bm 20 16383) (any_of HT_.out (by kernel_rfl)) ?_
                 refine Pt.tk 14 (some 49) (Pt.bm 20 32767) rfl rfl (take_ofW HT_.out HW_.out (by kernel_rfl)) hHeld (Or.inl ⟨by rfl, by rintro w' ⟨s0, s1, s2, s3, s4, s5⟩; go_simp; with_reducible rfl⟩) ?_
                 refine Pt.pu 15 (some 50) (Pt.bm 20 65535) (any_of HT_.out (by kernel_rfl)) ?_
                 refine Pt.pu 16 (some 51) (Pt.bm 20 131071) (any_of HT_.out (by kernel_rfl)) ?_
                 refine last_ (i := 17) (N := none) (Pt.bm 20 262143) rfl rfl (one_of HT_.out (by kernel_rfl)) (by decide) (fun K hK => ?_)
                 refine skip_ (w1 := ?_) (by rfl) rfl ?_ ?_
                 rotate_left
                 ·go_simp
                  rfl
                 refine hK.out _ _ ?_
                 clear hK K
                 refine Pt.pu 18 (some 52) (Pt.bm 20 524287) (any_of HT_.out (by kernel_rfl)) ?_
                 refine last_ (i := 19) (N := none) (Pt.bm 20 1048575) rfl rfl (one_of HT_.out (by kernel_rfl)) (by decide) (fun K hK => ?_)
                 refine skip_ (w1 := ?_) (by rfl) rfl ?_ ?_
                 rotate_left
                 ·go_simp
                  rfl
                 refine hK.out _ _ ?_
                 clear hK K
                 refine done_ (done_of HT_.out (by kernel_rfl)) ?_
                 try go_wp2
                 (try simp only [← hl5_1])
                 go_roundg k1
                 case measure => have := HK1.out; omega
                 case rel => exact ⟨(y303), (wrap64 (x6_1 - 1)), rsd, H', ⟨by have := HK1.out; omega⟩, ⟨by (try simp only [hl5_1]); (with_reducible repeat (first | apply Kd.R_alloc | apply Kd.R_drewN | apply Kd.R_drew)); exact HQ36.out⟩, ⟨by (try simp only [hl5_1]); (with_reducible repeat (first | refine blk_drewN ?_ _ | refine blk_drew ?_ | refine blk_alloc ?_ _)); refine blk_far ?_ (by have h_ := Kd.R_ne HO_5.out BK294.out (by decide); intro e_; exact h_ (by rw [e_]; rfl)) _; (with_reducible repeat (first | refine blk_drewN ?_ _ | refine blk_drew ?_ | refine blk_alloc ?_ _)); refine blk_far ?_ (by have h_ := Kd.R_ne HO_5.out BK294.out (by decide); intro e_; exact h_ (by rw [e_]; rfl)) _; (with_reducible repeat (first | refine blk_drewN ?_ _ | refine blk_drew ?_ | refine blk_alloc ?_ _)); exact BK294.out⟩, ⟨by repeat (first | (with_reducible first | exact HB.out | apply bwA | apply bwN | apply bwD | refine below_set ?_ GB9.out | refine below_set ?_ GB9.out | refine below_set ?_ GE294.out) | exact HB.out)⟩⟩
                ·rw [if_neg c31] at H
                 exact absurd H (by simp)
               ·rw [if_neg c30] at H
                exact absurd H (by simp)
              ·rw [if_neg c27] at H
               exact absurd H (by simp)
             ·rw [if_neg c26] at H
              exact absurd H (by simp)
            ·rw [if_neg c24] at H
             exact absurd H (by simp)
           ·rw [if_neg c23] at H
            exact absurd H (by simp)
          ·replace c22 := Bool.eq_false_iff.mpr c22
           subst c22
           have H1 : (impl_Circuit_needs.l0 k1 x5_1 (wrap64 (x6_1 - 1)) a0_0 l0_1) = some r := by rw [if_neg (show ¬ (false = true) by decide)] at H; exact H
           clear H
           have H := H1
           clear H1
           have H' := Aside0.mk H
           clear H
           have hcz37_0 : wr.cell? ⟨gb294, 0, none⟩ = some (.int .i64 a0_0) := (blk_cell BK294.out 0).trans rfl
           have hcz37_1 : wr.cell? ⟨gb294, 1, none⟩ = some (.slice A0_1 l0_1.length c0_1) := (blk_cell BK294.out 1).trans rfl
           have hfz37_0 := blk_frozen BK294.out 0
           have hfz37_1 := blk_frozen BK294.out 1
           have p299 : 0 ≤ ((ji18) : Int) := oda
           have q299 : (ji18) < (x5_1.length : Int) := oda
           obtain ⟨ad299, e299, hx299_0⟩ := Kd.at_bool (Kd.R_reads' HO_5.out).2.2 (ji18) p299 q299
           (try rw [← Nbq21.out] at hx299_0)
           obtain rfl : (⟨go9, 0, none⟩ : Addr) = ad299 := (by injection e299)
           (first | simp only [add_plain] at hx299_0 | simp only [add_at] at hx299_0 | simp only [Addr.add, Nat.zero_add] at hx299_0 | skip)
           replace p299 := eq_true p299
           replace q299 := eq_true q299
           go_wp2
           (try simp only [← hl5_1])
           go_roundg k1
           case measure => have := HK1.out; omega
           case rel => exact ⟨(x5_1), (wrap64 (x6_1 - 1)), rsd, H', ⟨by have := HK1.out; omega⟩, ⟨by (try simp only [hl5_1]); (with_reducible repeat (first | apply Kd.R_alloc | apply Kd.R_drewN | apply Kd.R_drew)); exact HO_5.out⟩, ⟨by (try simp only [hl5_1]); (with_reducible repeat (first | refine blk_drewN ?_ _ | refine blk_drew ?_ | refine blk_alloc ?_ _)); exact BK294.out⟩, ⟨hbC⟩⟩
         ·rw [if_neg c20] at H
          exact absurd H (by simp)
        ·rw [if_neg c19] at H
         exact absurd H (by simp)
       ·rw [if_neg c17] at H
        have c17b0 : decide (0 ≤ x6_1) = false := decide_eq_false c17
        clear c17
        obtain rfl := Option.some.inj H
        go_wp2
        go_ret
        exact ⟨_, by first | rfl | (simp [errW_none, errW_some] <;> rfl) | (simp only [← hji3, ← hji6]; first | rfl | (simp [errW_none, errW_some] <;> rfl)) | (simp [*, errW_none, errW_some] <;> rfl), by (with_reducible repeat (first | apply Kd.R_alloc | apply Kd.R_drewN | apply Kd.R_drew)); exact HO_5.out, hbC⟩
    ·rw [if_neg c8] at H
     exact absurd H (by simp)
   ·rw [if_neg c7] at H
    exact absurd H (by simp)
  ·rw [if_neg c5] at H
   exact absurd H (by simp)
 ·rw [if_neg c4] at H
  exact absurd H (by simp)

end Go.Proofs.Ytpcckoljocpchaa.QFnFixed
