-- Written by a program of this session (mk.py). Lean checks it.
import Derived.Test.YtdigdhckbhlkmaaQFnGuessNextx0
import Derived.Test.YtdigdhckbhlkmaaQFnGuessNextx1
import Derived.Test.YtdigdhckbhlkmaaQFnGuessNextx4
namespace Go.Proofs.Ytdigdhckbhlkmaa.QFnGuessNext
open Go.RowKit Go.Proofs.YtdigdhckbhlkmaaW.PrintWords Go.Proofs.YtdigdhckbhlkmaaW.PrintLast Go.Proofs.YtdigdhckbhlkmaaW.PrintMore
attribute [local go_sem] max2_int min2_int max_two min_two max_three min_three max_four min_four   -- for this text's walks alone
set_option linter.unusedVariables false
set_option linter.unusedSimpArgs false

attribute [local go_sem high] eqA37
/-! ### impl_TimesValid: function 41 -/
mutual
def impl_TimesValid.j0 : Nat → List (S37) → Int → Bool → Option (Bool)
 | 0, _, _, _ => none
 | k + 1, x0, x1, x16 => if x16 = true then (some false) else (impl_TimesValid.l0 k x1 x0 (x0.length : Int) 0)
def impl_TimesValid.l0 : Nat → Int → List (S37) → Int → Int → Option (Bool)
 | 0, _, _, _, _ => none
 | k + 1, x1, x17, x18, x19 => if x19 < x18 then (if 0 ≤ x19 then (if x19 < (x17.length : Int) then ((impl_in.f ((rd_T37 x17 x19).f0) 0 7).bind fun t210 => (if ((rd_T37 x17 x19).f0) = 0 then (if ((((rd_T37 x17 x19).f1) == 0 && (((rd_T37 x17 x19).f2) == 0 && (((rd_T37 x17 x19).f3) == 0))) = true) then (impl_TimesValid.l0 k x1 x17 x18 (wrap64 (x19 + 1))) else (some false)) else (if ((rd_T37 x17 x19).f0) = 1 then ((impl_in.f ((rd_T37 x17 x19).f1) 0 (wrap64 (x1 - 1))).bind fun t211 => (if t211 = true then (if ((rd_T37 x17 x19).f2) = 0 then (if (((rd_T37 x17 x19).f3) = 0) then (impl_TimesValid.l0 k x1 x17 x18 (wrap64 (x19 + 1))) else (some false)) else (some false)) else (some false))) else (if t210 = true then (if ((rd_T37 x17 x19).f1) = 0 then ((impl_in.f ((rd_T37 x17 x19).f2) 0 (wrap64 (x19 - 1))).bind fun t212 => (if t212 = true then ((impl_in.f ((rd_T37 x17 x19).f3) 0 (wrap64 (x19 - 1))).bind fun t213 => (if t213 = true then (if ((rd_T37 x17 x19).f2) = ((rd_T37 x17 x19).f3) then (impl_TimesValid.l0 k x1 x17 x18 (wrap64 (x19 + 1))) else (if ((rd_T37 x17 x19).f0) = 2 then (some false) else (if ((rd_T37 x17 x19).f0) = 5 then (some false) else (impl_TimesValid.l0 k x1 x17 x18 (wrap64 (x19 + 1)))))) else (some false))) else (some false))) else (some false)) else (some false))))) else (none)) else (none)) else (some true)
end
def impl_TimesValid.f (k : Nat) (l0 : List (S37)) (a1 : Int) : Option (Bool) := (impl_in.f a1 0 4).bind fun t206 => (if t206 = true then ((impl_in.f (l0.length : Int) 1 24).bind fun t207 => (impl_TimesValid.j0 k l0 a1 (!t207))) else (impl_TimesValid.j0 k l0 a1 true))
theorem impl_TimesValid.mono_l : ∀ k, (∀ y0 y1 y2, LeO (impl_TimesValid.j0 k y0 y1 y2) (impl_TimesValid.j0 (k + 1) y0 y1 y2)) ∧ (∀ y0 y1 y2 y3, LeO (impl_TimesValid.l0 k y0 y1 y2 y3) (impl_TimesValid.l0 (k + 1) y0 y1 y2 y3))
 | 0 => ⟨fun _ _ _ r h => by simp [impl_TimesValid.j0] at h, fun _ _ _ _ r h => by simp [impl_TimesValid.l0] at h⟩
 | k + 1 => by
  obtain ⟨ih0, ih1⟩ := impl_TimesValid.mono_l k
  refine ⟨?_, ?_⟩
  ·intro y0 y1 y2
   unfold impl_TimesValid.j0
   repeat' first
   | (with_reducible exact ih0 _ _ _)
   | (with_reducible exact ih1 _ _ _ _)
   | (with_reducible exact LeO.refl _)
   | (with_reducible exact LeO.none _)
   | (with_reducible refine LeO.ite ?_ ?_)
   | (with_reducible refine LeO.bind ?_ (fun _ => ?_))
   | exact ih0 _ _ _
   | exact ih1 _ _ _ _
   | exact LeO.none _
   | refine LeO.ite ?_ ?_
   | refine LeO.bind ?_ (fun _ => ?_)
  ·intro y0 y1 y2 y3
   unfold impl_TimesValid.l0
   repeat' first
   | (with_reducible exact ih0 _ _ _)
   | (with_reducible exact ih1 _ _ _ _)
   | (with_reducible exact LeO.refl _)
   | (with_reducible exact LeO.none _)
   | (with_reducible refine LeO.ite ?_ ?_)
   | (with_reducible refine LeO.bind ?_ (fun _ => ?_))
   | exact ih0 _ _ _
   | exact ih1 _ _ _ _
   | exact LeO.none _
   | refine LeO.ite ?_ ?_
   | refine LeO.bind ?_ (fun _ => ?_)
theorem impl_TimesValid.mono : ∀ a0 a1 k, LeO (impl_TimesValid.f k a0 a1) (impl_TimesValid.f (k + 1) a0 a1) := by
 intro a0 a1 k
 obtain ⟨ih0, ih1⟩ := impl_TimesValid.mono_l k
 unfold impl_TimesValid.f
 repeat' first
   | (with_reducible exact ih0 _ _ _)
   | (with_reducible exact ih1 _ _ _ _)
   | (with_reducible exact LeO.refl _)
   | (with_reducible exact LeO.none _)
   | (with_reducible refine LeO.ite ?_ ?_)
   | (with_reducible refine LeO.bind ?_ (fun _ => ?_))
   | exact ih0 _ _ _
   | exact ih1 _ _ _ _
   | exact LeO.none _
   | refine LeO.ite ?_ ?_
   | refine LeO.bind ?_ (fun _ => ?_)
set_option maxHeartbeats 8000000 in
set_option maxRecDepth 100000 in
theorem impl_TimesValid.calls (k : Nat) (A0 : Option Addr) (c0 : Nat) (l0 : List (S37)) (a1 : Int) (r : Bool) (w : World) (hr0 : Kd.C k37 w A0 l0.length l0) (hc0 : l0.length ≤ c0) (h : impl_TimesValid.f k l0 a1 = some r) :
  Calls Try.prog 41 #[.slice A0 l0.length c0, .int .i64 a1] w fun e w' => e = .returned (.bool r) ∧ Below w.heap.size w w' := by
 have hu37 := Try.underlying37
 have HR0 := Aside0.mk hr0
 have HC0 := Aside0.mk hc0
 clear hr0 hc0
 have HB := Aside0.mk (Below.refl w.heap.size w)
 have H : ((impl_in.f a1 0 4).bind fun t206 => (if t206 = true then ((impl_in.f (l0.length : Int) 1 24).bind fun t207 => (impl_TimesValid.j0 k l0 a1 (!t207))) else (impl_TimesValid.j0 k l0 a1 true))) = some r := h
 clear h
 have HC3 := Aside0.mk H
 clear H
 go_enter Try.func41, Try.ntmps41
 go_upto_region 1 with (fail)
 go_cut [16] (fun v16 wc => ∃ (kq : Nat) (x16_2 : Bool), v16 = .bool x16_2 ∧ Aside0 (impl_TimesValid.j0 kq l0 a1 x16_2 = some r) ∧ Aside0 (kq ≤ k) ∧ Aside0 (Below w.heap.size w wc))
 case first =>
  have H := HC3.out
  clear HC3
  replace H := Option.bind_eq_some_iff.mp H
  obtain ⟨t206, A40, H⟩ := H
  replace H : (if t206 = true then ((impl_in.f (l0.length : Int) 1 24).bind fun t207 => (impl_TimesValid.j0 k l0 a1 (!t207))) else (impl_TimesValid.j0 k l0 a1 true)) = some r := H
  have A4 := Aside0.mk A40
  clear A40
  by_cases c5 : t206 = true
  ·subst c5
   have H1 : ((impl_in.f (l0.length : Int) 1 24).bind fun t207 => (impl_TimesValid.j0 k l0 a1 (!t207))) = some r := by rw [if_pos rfl] at H; exact H
   clear H
   have H := H1
   clear H1
   replace H := Option.bind_eq_some_iff.mp H
   obtain ⟨t207, A60, H⟩ := H
   replace H : (impl_TimesValid.j0 k l0 a1 (!t207)) = some r := H
   have A6 := Aside0.mk A60
   clear A60
   have H' := Aside0.mk H
   clear H
   go_wp2_with (first | ((with_reducible refine gate_callee (f := 52) rfl ?_); refine goesL_ (some 9) rfl rfl Try.func52 (by kernel_rfl) rfl #[.int .i64 a1, .int .i64 0, .int .i64 4] rfl lmB ?_; (with_reducible refine (impl_in.calls a1 0 4 true _ A4.out).mono ?_); rintro e w' ⟨rfl, ⟨nd, rfl⟩⟩; refine ⟨_, rfl, ?_⟩) | (go_at_call 52; (with_reducible refine (impl_in.calls (l0.length : Int) 1 24 t207 _ A6.out).mono ?_); rintro e w' ⟨rfl, ⟨nd, rfl⟩⟩))
   go_meet
   case rel => exact ⟨_, (!t207), rsd, H', ⟨by first | omega | exact Nat.le_refl _⟩, ⟨by repeat (first | (with_reducible first | exact HB.out | apply bwA | apply bwN | apply bwD) | exact HB.out)⟩⟩
  ·replace c5 := Bool.eq_false_iff.mpr c5
   subst c5
   have H1 : (impl_TimesValid.j0 k l0 a1 true) = some r := by rw [if_neg (show ¬ (false = true) by decide)] at H; exact H
   clear H
   have H := H1
   clear H1
   have H' := Aside0.mk H
   clear H
   go_wp2_with (first | ((with_reducible refine gate_callee (f := 52) rfl ?_); refine goesL_ (some 9) rfl rfl Try.func52 (by kernel_rfl) rfl #[.int .i64 a1, .int .i64 0, .int .i64 4] rfl lmB ?_; (with_reducible refine (impl_in.calls a1 0 4 false _ A4.out).mono ?_); rintro e w' ⟨rfl, ⟨nd, rfl⟩⟩; refine ⟨_, rfl, ?_⟩))
   go_meet
   case rel => exact ⟨_, (true), rsd, H', ⟨by first | omega | exact Nat.le_refl _⟩, ⟨by repeat (first | (with_reducible first | exact HB.out | apply bwA | apply bwN | apply bwD) | exact HB.out)⟩⟩
 case rest =>
  clear HC3
  try clear p2
  try clear c4
  try clear c5
  obtain ⟨kq, x16_2, rfl, HA, HJ2, HB⟩ := hcut
  cases kq with
  | zero => exact absurd HA.out (by simp [impl_TimesValid.j0])
  | succ kj2 =>
   have H := HA.out
   clear HA
   simp only [impl_TimesValid.j0] at H
   by_cases c7 : x16_2 = true
   ·subst c7
    have H1 : (some false) = some r := by rw [if_pos rfl] at H; exact H
    clear H
    have H := H1
    clear H1
    obtain rfl := Option.some.inj H
    go_wp2
    go_ret
    exact ⟨ers, by repeat (first | (with_reducible first | exact HB.out | apply bwA | apply bwN | apply bwD) | exact HB.out)⟩
   ·replace c7 := Bool.eq_false_iff.mpr c7
    subst c7
    have H1 : (impl_TimesValid.l0 kj2 a1 l0 (l0.length : Int) 0) = some r := by rw [if_neg (show ¬ (false = true) by decide)] at H; exact H
    clear H
    have H := H1
    clear H1
    have H' := Aside0.mk H
    clear H
    go_wp2
    go_loopg [19] kj2 (fun kq v19 w' => ∃ (x19_2 : Int), v19 = .int .i64 x19_2 ∧ Aside0 (impl_TimesValid.l0 kq a1 l0 (l0.length : Int) x19_2 = some r) ∧ Aside0 (kq ≤ kj2) ∧ Aside0 (Below w.heap.size w w'))
    case atStart => exact ⟨(0), rsd, H', ⟨Nat.le_refl _⟩, ⟨by repeat (first | (with_reducible first | exact HB.out | apply bwA | apply bwN | apply bwD) | exact HB.out)⟩⟩
    case round =>
     clear H'
     try clear p2
     try clear c4
     try clear c5
     try clear c7
     try clear p2
     obtain ⟨x19_2, rfl, HA, HK2, HB⟩ := hrel
     cases gk with
     | zero => exact absurd HA.out (by simp [impl_TimesValid.l0])
     | succ k2 =>
      have H := HA.out
      clear HA
      simp only [impl_TimesValid.l0] at H
      by_cases c8 : x19_2 < (l0.length : Int)
      ·rw [if_pos c8] at H
       have c8b0 : decide (x19_2 < (l0.length : Int)) = true := decide_eq_true c8
       clear c8
       by_cases c9 : 0 ≤ x19_2
       ·rw [if_pos c9] at H
        have c9b0 : decide (0 ≤ x19_2) = true := decide_eq_true c9
        clear c9
        by_cases c10 : x19_2 < (l0.length : Int)
        ·rw [if_pos c10] at H
         have c10b0 : decide (x19_2 < (l0.length : Int)) = true := decide_eq_true c10
         clear c10
         replace H := Option.bind_eq_some_iff.mp H
         obtain ⟨t210, A110, H⟩ := H
         replace H : (if ((rd_T37 l0 x19_2).f0) = 0 then (if ((((rd_T37 l0 x19_2).f1) == 0 && (((rd_T37 l0 x19_2).f2) == 0 && (((rd_T37 l0 x19_2).f3) == 0))) = true) then (impl_TimesValid.l0 k2 a1 l0 (l0.length : Int) (wrap64 (x19_2 + 1))) else (some false)) else (if ((rd_T37 l0 x19_2).f0) = 1 then ((impl_in.f ((rd_T37 l0 x19_2).f1) 0 (wrap64 (a1 - 1))).bind fun t211 => (if t211 = true then (if ((rd_T37 l0 x19_2).f2) = 0 then (if (((rd_T37 l0 x19_2).f3) = 0) then (impl_TimesValid.l0 k2 a1 l0 (l0.length : Int) (wrap64 (x19_2 + 1))) else (some false)) else (some false)) else (some false))) else (if t210 = true then (if ((rd_T37 l0 x19_2).f1) = 0 then ((impl_in.f ((rd_T37 l0 x19_2).f2) 0 (wrap64 (x19_2 - 1))).bind fun t212 => (if t212 = true then ((impl_in.f ((rd_T37 l0 x19_2).f3) 0 (wrap64 (x19_2 - 1))).bind fun t213 => (if t213 = true then (if ((rd_T37 l0 x19_2).f2) = ((rd_T37 l0 x19_2).f3) then (impl_TimesValid.l0 k2 a1 l0 (l0.length : Int) (wrap64 (x19_2 + 1))) else (if ((rd_T37 l0 x19_2).f0) = 2 then (some false) else (if ((rd_T37 l0 x19_2).f0) = 5 then (some false) else (impl_TimesValid.l0 k2 a1 l0 (l0.length : Int) (wrap64 (x19_2 + 1)))))) else (some false))) else (some false))) else (some false)) else (some false)))) = some r := H
         have A11 := Aside0.mk A110
         clear A110
         by_cases c12 : ((rd_T37 l0 x19_2).f0) = 0
         ·rw [if_pos c12] at H
          have c12b0 : (((rd_T37 l0 x19_2).f0) == 0) = true := beq_iff_eq.mpr c12
          have c12b1 : (((rd_T37 l0 x19_2).f0) != 0) = false := bne_eq_false_iff_eq.mpr c12
          clear c12
          by_cases c13 : ((((rd_T37 l0 x19_2).f1) == 0 && (((rd_T37 l0 x19_2).f2) == 0 && (((rd_T37 l0 x19_2).f3) == 0))) = true)
          ·rw [if_pos c13] at H
           have c13b0 : (((rd_T37 l0 x19_2).f1) == 0 && (((rd_T37 l0 x19_2).f2) == 0 && (((rd_T37 l0 x19_2).f3) == 0))) = true := c13
           (try (have c13b1 : decide (((rd_T37 l0 x19_2).f1) = 0 && (((rd_T37 l0 x19_2).f2) == 0 && (((rd_T37 l0 x19_2).f3) == 0))) = true := by simpa using c13))
           (try (have c13b2 : (((rd_T37 l0 x19_2).f1) == 0 && (((rd_T37 l0 x19_2).f2) == 0 && (((rd_T37 l0 x19_2).f3) == 0))) = true := by simpa using c13))
           clear c13
           have H' := Aside0.mk H
           clear H
           have p208 : 0 ≤ (x19_2 : Int) := oda
           have q208 : x19_2 < (l0.length : Int) := oda
           obtain ⟨ad208, e208, hx208_0, hx208_1, hx208_2, hx208_3⟩ := at_T37 HR0.out x19_2 p208 q208
           cases e208
           try replace hx208_0 := bct HB.out hx208_0
           try replace hx208_1 := bct HB.out hx208_1
           try replace hx208_2 := bct HB.out hx208_2
           try replace hx208_3 := bct HB.out hx208_3
           replace p208 := eq_true p208
           replace q208 := eq_true q208
           go_wp2_with (first | ((with_reducible refine gate_dst (N := 6) rfl ?_); (try (refine gate_guard (by rfl) ?_; dsimp only)); refine box_event ?hg (N := 6) ?hd (cs := #[.int .i64 0, .int .i64 0, .int .i64 0, .int .i64 0]) (t := 37) ?hr ?_; (case hd => rfl); (case hg => rfl); (case hr => first | (go_simp; done) | (go_simp; rfl)); intro gb209 hg w14 hbox hb; have n0_ := Aside0.mk (below_step (by repeat (first | (with_reducible first | exact HB.out | apply bwA | apply bwN | apply bwD) | exact HB.out)) hb); have n1_ := Aside0.mk (hbox); have n2_ := Aside0.mk ((by rw [hg]; exact (below_size (by repeat (first | (with_reducible first | exact HB.out | apply bwA | apply bwN | apply bwD) | exact HB.out))) : w.heap.size ≤ gb209)); have n3_ := Aside0.mk ((by rw [hg]; exact (below_size (by repeat (first | (with_reducible first | exact HB.out | apply bwA | apply bwN | apply bwD) | exact HB.out))) : w.heap.size ≤ gb209)); clear HB; have HB := n0_; have BK209 := n1_; have GW209 := n2_; have GE209 := n3_; clear n0_ n1_ n2_ n3_; clear hb hbox hg; have hcz15_0 : w14.cell? ⟨gb209, 0, none⟩ = some (.int .i64 0) := (blk_cell BK209.out 0).trans rfl; have hcz15_1 : w14.cell? ⟨gb209, 1, none⟩ = some (.int .i64 0) := (blk_cell BK209.out 1).trans rfl; have hcz15_2 : w14.cell? ⟨gb209, 2, none⟩ = some (.int .i64 0) := (blk_cell BK209.out 2).trans rfl; have hcz15_3 : w14.cell? ⟨gb209, 3, none⟩ = some (.int .i64 0) := (blk_cell BK209.out 3).trans rfl; have hfz15_0 := blk_frozen BK209.out 0; have hfz15_1 := blk_frozen BK209.out 1; have hfz15_2 := blk_frozen BK209.out 2; have hfz15_3 := blk_frozen BK209.out 3) | ((with_reducible refine gate_callee (f := 52) rfl ?_); refine goesL_ (some 26) rfl rfl Try.func52 (by kernel_rfl) rfl #[.int .i64 ((rd_T37 l0 x19_2).f0), .int .i64 0, .int .i64 7] rfl lmB ?_; (with_reducible refine (impl_in.calls ((rd_T37 l0 x19_2).f0) 0 7 t210 _ A11.out).mono ?_); rintro e w' ⟨rfl, ⟨nd, rfl⟩⟩; refine ⟨_, rfl, ?_⟩))
           go_roundg k2
           case measure => have := HJ2.out; have := HK2.out; omega
           case rel => exact ⟨(wrap64 (x19_2 + 1)), rsd, H', ⟨by have := HJ2.out; have := HK2.out; omega⟩, ⟨by repeat (first | (with_reducible first | exact HB.out | apply bwA | apply bwN | apply bwD | refine below_set ?_ GE209.out) | exact HB.out)⟩⟩
          ·rw [if_neg c13] at H
           have c13b0 : (((rd_T37 l0 x19_2).f1) == 0 && (((rd_T37 l0 x19_2).f2) == 0 && (((rd_T37 l0 x19_2).f3) == 0))) = false := by simpa using c13
           (try (have c13b1 : decide (((rd_T37 l0 x19_2).f1) = 0 && (((rd_T37 l0 x19_2).f2) == 0 && (((rd_T37 l0 x19_2).f3) == 0))) = false := by simpa using c13))
           (try (have c13b2 : (((rd_T37 l0 x19_2).f1) == 0 && (((rd_T37 l0 x19_2).f2) == 0 && (((rd_T37 l0 x19_2).f3) == 0))) = false := by simpa using c13))
           (try (have c13b3 : ¬ (((rd_T37 l0 x19_2).f1) = 0 && (((rd_T37 l0 x19_2).f2) == 0 && (((rd_T37 l0 x19_2).f3) == 0))) := by simpa using c13))
           clear c13
           obtain rfl := Option.some.inj H
           have p208 : 0 ≤ (x19_2 : Int) := oda
           have q208 : x19_2 < (l0.length : Int) := oda
           obtain ⟨ad208, e208, hx208_0, hx208_1, hx208_2, hx208_3⟩ := at_T37 HR0.out x19_2 p208 q208
           cases e208
           try replace hx208_0 := bct HB.out hx208_0
           try replace hx208_1 := bct HB.out hx208_1
           try replace hx208_2 := bct HB.out hx208_2
           try replace hx208_3 := bct HB.out hx208_3
           replace p208 := eq_true p208
           replace q208 := eq_true q208
           go_wp2_with (first | ((with_reducible refine gate_dst (N := 6) rfl ?_); (try (refine gate_guard (by rfl) ?_; dsimp only)); refine box_event ?hg (N := 6) ?hd (cs := #[.int .i64 0, .int .i64 0, .int .i64 0, .int .i64 0]) (t := 37) ?hr ?_; (case hd => rfl); (case hg => rfl); (case hr => first | (go_simp; done) | (go_simp; rfl)); intro gb209 hg w16 hbox hb; have n0_ := Aside0.mk (below_step (by repeat (first | (with_reducible first | exact HB.out | apply bwA | apply bwN | apply bwD) | exact HB.out)) hb); have n1_ := Aside0.mk (hbox); have n2_ := Aside0.mk ((by rw [hg]; exact (below_size (by repeat (first | (with_reducible first | exact HB.out | apply bwA | apply bwN | apply bwD) | exact HB.out))) : w.heap.size ≤ gb209)); have n3_ := Aside0.mk ((by rw [hg]; exact (below_size (by repeat (first | (with_reducible first | exact HB.out | apply bwA | apply bwN | apply bwD) | exact HB.out))) : w.heap.size ≤ gb209)); clear HB; have HB := n0_; have BK209 := n1_; have GW209 := n2_; have GE209 := n3_; clear n0_ n1_ n2_ n3_; clear hb hbox hg; have hcz17_0 : w16.cell? ⟨gb209, 0, none⟩ = some (.int .i64 0) := (blk_cell BK209.out 0).trans rfl; have hcz17_1 : w16.cell? ⟨gb209, 1, none⟩ = some (.int .i64 0) := (blk_cell BK209.out 1).trans rfl; have hcz17_2 : w16.cell? ⟨gb209, 2, none⟩ = some (.int .i64 0) := (blk_cell BK209.out 2).trans rfl; have hcz17_3 : w16.cell? ⟨gb209, 3, none⟩ = some (.int .i64 0) := (blk_cell BK209.out 3).trans rfl; have hfz17_0 := blk_frozen BK209.out 0; have hfz17_1 := blk_frozen BK209.out 1; have hfz17_2 := blk_frozen BK209.out 2; have hfz17_3 := blk_frozen BK209.out 3) | ((with_reducible refine gate_callee (f := 52) rfl ?_); refine goesL_ (some 26) rfl rfl Try.func52 (by kernel_rfl) rfl #[.int .i64 ((rd_T37 l0 x19_2).f0), .int .i64 0, .int .i64 7] rfl lmB ?_; (with_reducible refine (impl_in.calls ((rd_T37 l0 x19_2).f0) 0 7 t210 _ A11.out).mono ?_); rintro e w' ⟨rfl, ⟨nd, rfl⟩⟩; refine ⟨_, rfl, ?_⟩))
           go_ret
           exact ⟨ers, by repeat (first | (with_reducible first | exact HB.out | apply bwA | apply bwN | apply bwD | refine below_set ?_ GE209.out) | exact HB.out)⟩
         ·rw [if_neg c12] at H
          have c12b0 : (((rd_T37 l0 x19_2).f0) == 0) = false := beq_eq_false_iff_ne.mpr c12
          have c12b1 : (((rd_T37 l0 x19_2).f0) != 0) = true := bne_iff_ne.mpr c12
          by_cases c18 : ((rd_T37 l0 x19_2).f0) = 1
          ·rw [if_pos c18] at H
           have c18b0 : (((rd_T37 l0 x19_2).f0) == 1) = true := beq_iff_eq.mpr c18
           have c18b1 : (((rd_T37 l0 x19_2).f0) != 1) = false := bne_eq_false_iff_eq.mpr c18
           clear c18
           replace H := Option.bind_eq_some_iff.mp H
           obtain ⟨t211, A190, H⟩ := H
           replace H : (if t211 = true then (if ((rd_T37 l0 x19_2).f2) = 0 then (if (((rd_T37 l0 x19_2).f3) = 0) then (impl_TimesValid.l0 k2 a1 l0 (l0.length : Int) (wrap64 (x19_2 + 1))) else (some false)) else (some false)) else (some false)) = some r := H
           have A19 := Aside0.mk A190
           clear A190
           by_cases c20 : t211 = true
           ·subst c20
            have H1 : (if ((rd_T37 l0 x19_2).f2) = 0 then (if (((rd_T37 l0 x19_2).f3) = 0) then (impl_TimesValid.l0 k2 a1 l0 (l0.length : Int) (wrap64 (x19_2 + 1))) else (some false)) else (some false)) = some r := by rw [if_pos rfl] at H; exact H
            clear H
            have H := H1
            clear H1
            by_cases c21 : ((rd_T37 l0 x19_2).f2) = 0
            ·rw [if_pos c21] at H
             have c21b0 : (((rd_T37 l0 x19_2).f2) == 0) = true := beq_iff_eq.mpr c21
             have c21b1 : (((rd_T37 l0 x19_2).f2) != 0) = false := bne_eq_false_iff_eq.mpr c21
             clear c21
             by_cases c22 : (((rd_T37 l0 x19_2).f3) = 0)
             ·rw [if_pos c22] at H
              have c22b0 : (((rd_T37 l0 x19_2).f3) == 0) = true := beq_iff_eq.mpr c22
              have c22b1 : (((rd_T37 l0 x19_2).f3) != 0) = false := bne_eq_false_iff_eq.mpr c22
              clear c22
              have H' := Aside0.mk H
              clear H
              have p208 : 0 ≤ (x19_2 : Int) := oda
              have q208 : x19_2 < (l0.length : Int) := oda
              obtain ⟨ad208, e208, hx208_0, hx208_1, hx208_2, hx208_3⟩ := at_T37 HR0.out x19_2 p208 q208
              cases e208
              try replace hx208_0 := bct HB.out hx208_0
              try replace hx208_1 := bct HB.out hx208_1
              try replace hx208_2 := bct HB.out hx208_2
              try replace hx208_3 := bct HB.out hx208_3
              replace p208 := eq_true p208
              replace q208 := eq_true q208
              go_wp2_with (first | ((with_reducible refine gate_dst (N := 6) rfl ?_); (try (refine gate_guard (by rfl) ?_; dsimp only)); refine box_event ?hg (N := 6) ?hd (cs := #[.int .i64 0, .int .i64 0, .int .i64 0, .int .i64 0]) (t := 37) ?hr ?_; (case hd => rfl); (case hg => rfl); (case hr => first | (go_simp; done) | (go_simp; rfl)); intro gb209 hg w23 hbox hb; have n0_ := Aside0.mk (below_step (by repeat (first | (with_reducible first | exact HB.out | apply bwA | apply bwN | apply bwD) | exact HB.out)) hb); have n1_ := Aside0.mk (hbox); have n2_ := Aside0.mk ((by rw [hg]; exact (below_size (by repeat (first | (with_reducible first | exact HB.out | apply bwA | apply bwN | apply bwD) | exact HB.out))) : w.heap.size ≤ gb209)); have n3_ := Aside0.mk ((by rw [hg]; exact (below_size (by repeat (first | (with_reducible first | exact HB.out | apply bwA | apply bwN | apply bwD) | exact HB.out))) : w.heap.size ≤ gb209)); clear HB; have HB := n0_; have BK209 := n1_; have GW209 := n2_; have GE209 := n3_; clear n0_ n1_ n2_ n3_; clear hb hbox hg; have hcz24_0 : w23.cell? ⟨gb209, 0, none⟩ = some (.int .i64 0) := (blk_cell BK209.out 0).trans rfl; have hcz24_1 : w23.cell? ⟨gb209, 1, none⟩ = some (.int .i64 0) := (blk_cell BK209.out 1).trans rfl; have hcz24_2 : w23.cell? ⟨gb209, 2, none⟩ = some (.int .i64 0) := (blk_cell BK209.out 2).trans rfl; have hcz24_3 : w23.cell? ⟨gb209, 3, none⟩ = some (.int .i64 0) := (blk_cell BK209.out 3).trans rfl; have hfz24_0 := blk_frozen BK209.out 0; have hfz24_1 := blk_frozen BK209.out 1; have hfz24_2 := blk_frozen BK209.out 2; have hfz24_3 := blk_frozen BK209.out 3) | ((with_reducible refine gate_callee (f := 52) rfl ?_); refine goesL_ (some 26) rfl rfl Try.func52 (by kernel_rfl) rfl #[.int .i64 ((rd_T37 l0 x19_2).f0), .int .i64 0, .int .i64 7] rfl lmB ?_; (with_reducible refine (impl_in.calls ((rd_T37 l0 x19_2).f0) 0 7 t210 _ A11.out).mono ?_); rintro e w' ⟨rfl, ⟨nd, rfl⟩⟩; refine ⟨_, rfl, ?_⟩) | ((with_reducible refine gate_callee (f := 52) rfl ?_); refine goesL_ (some 77) rfl rfl Try.func52 (by kernel_rfl) rfl #[.int .i64 ((rd_T37 l0 x19_2).f1), .int .i64 0, .int .i64 (wrap64 (a1 - 1))] rfl lmB ?_; (with_reducible refine (impl_in.calls ((rd_T37 l0 x19_2).f1) 0 (wrap64 (a1 - 1)) true _ A19.out).mono ?_); rintro e w' ⟨rfl, ⟨nd, rfl⟩⟩; refine ⟨_, rfl, ?_⟩))
              go_roundg k2
              case measure => have := HJ2.out; have := HK2.out; omega
              case rel => exact ⟨(wrap64 (x19_2 + 1)), rsd, H', ⟨by have := HJ2.out; have := HK2.out; omega⟩, ⟨by repeat (first | (with_reducible first | exact HB.out | apply bwA | apply bwN | apply bwD | refine below_set ?_ GE209.out) | exact HB.out)⟩⟩
             ·rw [if_neg c22] at H
              have c22b0 : (((rd_T37 l0 x19_2).f3) == 0) = false := beq_eq_false_iff_ne.mpr c22
              have c22b1 : (((rd_T37 l0 x19_2).f3) != 0) = true := bne_iff_ne.mpr c22
              obtain rfl := Option.some.inj H
              have p208 : 0 ≤ (x19_2 : Int) := oda
              have q208 : x19_2 < (l0.length : Int) := oda
              obtain ⟨ad208, e208, hx208_0, hx208_1, hx208_2, hx208_3⟩ := at_T37 HR0.out x19_2 p208 q208
              cases e208
              try replace hx208_0 := bct HB.out hx208_0
              try replace hx208_1 := bct HB.out hx208_1
              try replace hx208_2 := bct HB.out hx208_2
              try replace hx208_3 := bct HB.out hx208_3
              replace p208 := eq_true p208
              replace q208 := eq_true q208
              go_wp2_with (first | ((with_reducible refine gate_dst (N := 6) rfl ?_); (try (refine gate_guard (by rfl) ?_; dsimp only)); refine box_event ?hg (N := 6) ?hd (cs := #[.int .i64 0, .int .i64 0, .int .i64 0, .int .i64 0]) (t := 37) ?hr ?_; (case hd => rfl); (case hg => rfl); (case hr => first | (go_simp; done) | (go_simp; rfl)); intro gb209 hg w25 hbox hb; have n0_ := Aside0.mk (below_step (by repeat (first | (with_reducible first | exact HB.out | apply bwA | apply bwN | apply bwD) | exact HB.out)) hb); have n1_ := Aside0.mk (hbox); have n2_ := Aside0.mk ((by rw [hg]; exact (below_size (by repeat (first | (with_reducible first | exact HB.out | apply bwA | apply bwN | apply bwD) | exact HB.out))) : w.heap.size ≤ gb209)); have n3_ := Aside0.mk ((by rw [hg]; exact (below_size (by repeat (first | (with_reducible first | exact HB.out | apply bwA | apply bwN | apply bwD) | exact HB.out))) : w.heap.size ≤ gb209)); clear HB; have HB := n0_; have BK209 := n1_; have GW209 := n2_; have GE209 := n3_; clear n0_ n1_ n2_ n3_; clear hb hbox hg; have hcz26_0 : w25.cell? ⟨gb209, 0, none⟩ = some (.int .i64 0) := (blk_cell BK209.out 0).trans rfl; have hcz26_1 : w25.cell? ⟨gb209, 1, none⟩ = some (.int .i64 0) := (blk_cell BK209.out 1).trans rfl; have hcz26_2 : w25.cell? ⟨gb209, 2, none⟩ = some (.int .i64 0) := (blk_cell BK209.out 2).trans rfl; have hcz26_3 : w25.cell? ⟨gb209, 3, none⟩ = some (.int .i64 0) := (blk_cell BK209.out 3).trans rfl; have hfz26_0 := blk_frozen BK209.out 0; have hfz26_1 := blk_frozen BK209.out 1; have hfz26_2 := blk_frozen BK209.out 2; have hfz26_3 := blk_frozen BK209.out 3) | ((with_reducible refine gate_callee (f := 52) rfl ?_); refine goesL_ (some 26) rfl rfl Try.func52 (by kernel_rfl) rfl #[.int .i64 ((rd_T37 l0 x19_2).f0), .int .i64 0, .int .i64 7] rfl lmB ?_; (with_reducible refine (impl_in.calls ((rd_T37 l0 x19_2).f0) 0 7 t210 _ A11.out).mono ?_); rintro e w' ⟨rfl, ⟨nd, rfl⟩⟩; refine ⟨_, rfl, ?_⟩) | ((with_reducible refine gate_callee (f := 52) rfl ?_); refine goesL_ (some 77) rfl rfl Try.func52 (by kernel_rfl) rfl #[.int .i64 ((rd_T37 l0 x19_2).f1), .int .i64 0, .int .i64 (wrap64 (a1 - 1))] rfl lmB ?_; (with_reducible refine (impl_in.calls ((rd_T37 l0 x19_2).f1) 0 (wrap64 (a1 - 1)) true _ A19.out).mono ?_); rintro e w' ⟨rfl, ⟨nd, rfl⟩⟩; refine ⟨_, rfl, ?_⟩))
              go_ret
              exact ⟨ers, by repeat (first | (with_reducible first | exact HB.out | apply bwA | apply bwN | apply bwD | refine below_set ?_ GE209.out) | exact HB.out)⟩
            ·rw [if_neg c21] at H
             have c21b0 : (((rd_T37 l0 x19_2).f2) == 0) = false := beq_eq_false_iff_ne.mpr c21
             have c21b1 : (((rd_T37 l0 x19_2).f2) != 0) = true := bne_iff_ne.mpr c21
             obtain rfl := Option.some.inj H
             have p208 : 0 ≤ (x19_2 : Int) := oda
             have q208 : x19_2 < (l0.length : Int) := oda
             obtain ⟨ad208, e208, hx208_0, hx208_1, hx208_2, hx208_3⟩ := at_T37 HR0.out x19_2 p208 q208
             cases e208
             try replace hx208_0 := bct HB.out hx208_0
             try replace hx208_1 := bct HB.out hx208_1
             try replace hx208_2 := bct HB.out hx208_2
             try replace hx208_3 := bct HB.out hx208_3
             replace p208 := eq_true p208
             replace q208 := eq_true q208
             go_wp2_with (first | ((with_reducible refine gate_dst (N := 6) rfl ?_); (try (refine gate_guard (by rfl) ?_; dsimp only)); refine box_event ?hg (N := 6) ?hd (cs := #[.int .i64 0, .int .i64 0, .int .i64 0, .int .i64 0]) (t := 37) ?hr ?_; (case hd => rfl); (case hg => rfl); (case hr => first | (go_simp; done) | (go_simp; rfl)); intro gb209 hg w27 hbox hb; have n0_ := Aside0.mk (below_step (by repeat (first | (with_reducible first | exact HB.out | apply bwA | apply bwN | apply bwD) | exact HB.out)) hb); have n1_ := Aside0.mk (hbox); have n2_ := Aside0.mk ((by rw [hg]; exact (below_size (by repeat (first | (with_reducible first | exact HB.out | apply bwA | apply bwN | apply bwD) | exact HB.out))) : w.heap.size ≤ gb209)); have n3_ := Aside0.mk ((by rw [hg]; exact (below_size (by repeat (first | (with_reducible first | exact HB.out | apply bwA | apply bwN | apply bwD) | exact HB.out))) : w.heap.size ≤ gb209)); clear HB; have HB := n0_; have BK209 := n1_; have GW209 := n2_; have GE209 := n3_; clear n0_ n1_ n2_ n3_; clear hb hbox hg; have hcz28_0 : w27.cell? ⟨gb209, 0, none⟩ = some (.int .i64 0) := (blk_cell BK209.out 0).trans rfl; have hcz28_1 : w27.cell? ⟨gb209, 1, none⟩ = some (.int .i64 0) := (blk_cell BK209.out 1).trans rfl; have hcz28_2 : w27.cell? ⟨gb209, 2, none⟩ = some (.int .i64 0) := (blk_cell BK209.out 2).trans rfl; have hcz28_3 : w27.cell? ⟨gb209, 3, none⟩ = some (.int .i64 0) := (blk_cell BK209.out 3).trans rfl; have hfz28_0 := blk_frozen BK209.out 0; have hfz28_1 := blk_frozen BK209.out 1; have hfz28_2 := blk_frozen BK209.out 2; have hfz28_3 := blk_frozen BK209.out 3) | ((with_reducible refine gate_callee (f := 52) rfl ?_); refine goesL_ (some 26) rfl rfl Try.func52 (by kernel_rfl) rfl #[.int .i64 ((rd_T37 l0 x19_2).f0), .int .i64 0, .int .i64 7] rfl lmB ?_; (with_reducible refine (impl_in.calls ((rd_T37 l0 x19_2).f0) 0 7 t210 _ A11.out).mono ?_); rintro e w' ⟨rfl, ⟨nd, rfl⟩⟩; refine ⟨_, rfl, ?_⟩) | ((with_reducible refine gate_callee (f := 52) rfl ?_); refine goesL_ (some 77) rfl rfl Try.func52 (by kernel_rfl) rfl #[.int .i64 ((rd_T37 l0 x19_2).f1), .int .i64 0, .int .i64 (wrap64 (a1 - 1))] rfl lmB ?_; (with_reducible refine (impl_in.calls ((rd_T37 l0 x19_2).f1) 0 (wrap64 (a1 - 1)) true _ A19.out).mono ?_); rintro e w' ⟨rfl, ⟨nd, rfl⟩⟩; refine ⟨_, rfl, ?_⟩))
             go_ret
             exact ⟨ers, by repeat (first | (with_reducible first | exact HB.out | apply bwA | apply bwN | apply bwD | refine below_set ?_ GE209.out) | exact HB.out)⟩
           ·replace c20 := Bool.eq_false_iff.mpr c20
            subst c20
            have H1 : (some false) = some r := by rw [if_neg (show ¬ (false = true) by decide)] at H; exact H
            clear H
            have H := H1
            clear H1
            obtain rfl := Option.some.inj H
            have p208 : 0 ≤ (x19_2 : Int) := oda
            have q208 : x19_2 < (l0.length : Int) := oda
            obtain ⟨ad208, e208, hx208_0, hx208_1, hx208_2, hx208_3⟩ := at_T37 HR0.out x19_2 p208 q208
            cases e208
            try replace hx208_0 := bct HB.out hx208_0
            try replace hx208_1 := bct HB.out hx208_1
            try replace hx208_2 := bct HB.out hx208_2
            try replace hx208_3 := bct HB.out hx208_3
            replace p208 := eq_true p208
            replace q208 := eq_true q208
            go_wp2_with (first | ((with_reducible refine gate_dst (N := 6) rfl ?_); (try (refine gate_guard (by rfl) ?_; dsimp only)); refine box_event ?hg (N := 6) ?hd (cs := #[.int .i64 0, .int .i64 0, .int .i64 0, .int .i64 0]) (t := 37) ?hr ?_; (case hd => rfl); (case hg => rfl); (case hr => first | (go_simp; done) | (go_simp; rfl)); intro gb209 hg w29 hbox hb; have n0_ := Aside0.mk (below_step (by repeat (first | (with_reducible first | exact HB.out | apply bwA | apply bwN | apply bwD) | exact HB.out)) hb); have n1_ := Aside0.mk (hbox); have n2_ := Aside0.mk ((by rw [hg]; exact (below_size (by repeat (first | (with_reducible first | exact HB.out | apply bwA | apply bwN | apply bwD) | exact HB.out))) : w.heap.size ≤ gb209)); have n3_ := Aside0.mk ((by rw [hg]; exact (below_size (by repeat (first | (with_reducible first | exact HB.out | apply bwA | apply bwN | apply bwD) | exact HB.out))) : w.heap.size ≤ gb209)); clear HB; have HB := n0_; have BK209 := n1_; have GW209 := n2_; have GE209 := n3_; clear n0_ n1_ n2_ n3_; clear hb hbox hg; have hcz30_0 : w29.cell? ⟨gb209, 0, none⟩ = some (.int .i64 0) := (blk_cell BK209.out 0).trans rfl; have hcz30_1 : w29.cell? ⟨gb209, 1, none⟩ = some (.int .i64 0) := (blk_cell BK209.out 1).trans rfl; have hcz30_2 : w29.cell? ⟨gb209, 2, none⟩ = some (.int .i64 0) := (blk_cell BK209.out 2).trans rfl; have hcz30_3 : w29.cell? ⟨gb209, 3, none⟩ = some (.int .i64 0) := (blk_cell BK209.out 3).trans rfl; have hfz30_0 := blk_frozen BK209.out 0; have hfz30_1 := blk_frozen BK209.out 1; have hfz30_2 := blk_frozen BK209.out 2; have hfz30_3 := blk_frozen BK209.out 3) | ((with_reducible refine gate_callee (f := 52) rfl ?_); refine goesL_ (some 26) rfl rfl Try.func52 (by kernel_rfl) rfl #[.int .i64 ((rd_T37 l0 x19_2).f0), .int .i64 0, .int .i64 7] rfl lmB ?_; (with_reducible refine (impl_in.calls ((rd_T37 l0 x19_2).f0) 0 7 t210 _ A11.out).mono ?_); rintro e w' ⟨rfl, ⟨nd, rfl⟩⟩; refine ⟨_, rfl, ?_⟩) | ((with_reducible refine gate_callee (f := 52) rfl ?_); refine goesL_ (some 77) rfl rfl Try.func52 (by kernel_rfl) rfl #[.int .i64 ((rd_T37 l0 x19_2).f1), .int .i64 0, .int .i64 (wrap64 (a1 - 1))] rfl lmB ?_; (with_reducible refine (impl_in.calls ((rd_T37 l0 x19_2).f1) 0 (wrap64 (a1 - 1)) false _ A19.out).mono ?_); rintro e w' ⟨rfl, ⟨nd, rfl⟩⟩; refine ⟨_, rfl, ?_⟩))
            go_ret
            exact ⟨ers, by repeat (first | (with_reducible first | exact HB.out | apply bwA | apply bwN | apply bwD | refine below_set ?_ GE209.out) | exact HB.out)⟩
          ·rw [if_neg c18] at H
           have c18b0 : (((rd_T37 l0 x19_2).f0) == 1) = false := beq_eq_false_iff_ne.mpr c18
           have c18b1 : (((rd_T37 l0 x19_2).f0) != 1) = true := bne_iff_ne.mpr c18
           by_cases c31 : t210 = true
           ·subst c31
            have H1 : (if ((rd_T37 l0 x19_2).f1) = 0 then ((impl_in.f ((rd_T37 l0 x19_2).f2) 0 (wrap64 (x19_2 - 1))).bind fun t212 => (if t212 = true then ((impl_in.f ((rd_T37 l0 x19_2).f3) 0 (wrap64 (x19_2 - 1))).bind fun t213 => (if t213 = true then (if ((rd_T37 l0 x19_2).f2) = ((rd_T37 l0 x19_2).f3) then (impl_TimesValid.l0 k2 a1 l0 (l0.length : Int) (wrap64 (x19_2 + 1))) else (if ((rd_T37 l0 x19_2).f0) = 2 then (some false) else (if ((rd_T37 l0 x19_2).f0) = 5 then (some false) else (impl_TimesValid.l0 k2 a1 l0 (l0.length : Int) (wrap64 (x19_2 + 1)))))) else (some false))) else (some false))) else (some false)) = some r := by rw [if_pos rfl] at H; exact H
            clear H
            have H := H1
            clear H1
            by_cases c32 : ((rd_T37 l0 x19_2).f1) = 0
            ·rw [if_pos c32] at H
             have c32b0 : (((rd_T37 l0 x19_2).f1) == 0) = true := beq_iff_eq.mpr c32
             have c32b1 : (((rd_T37 l0 x19_2).f1) != 0) = false := bne_eq_false_iff_eq.mpr c32
             clear c32
             replace H := Option.bind_eq_some_iff.mp H
             obtain ⟨t212, A330, H⟩ := H
             replace H : (if t212 = true then ((impl_in.f ((rd_T37 l0 x19_2).f3) 0 (wrap64 (x19_2 - 1))).bind fun t213 => (if t213 = true then (if ((rd_T37 l0 x19_2).f2) = ((rd_T37 l0 x19_2).f3) then (impl_TimesValid.l0 k2 a1 l0 (l0.length : Int) (wrap64 (x19_2 + 1))) else (if ((rd_T37 l0 x19_2).f0) = 2 then (some false) else (if ((rd_T37 l0 x19_2).f0) = 5 then (some false) else (impl_TimesValid.l0 k2 a1 l0 (l0.length : Int) (wrap64 (x19_2 + 1)))))) else (some false))) else (some false)) = some r := H
             have A33 := Aside0.mk A330
             clear A330
             by_cases c34 : t212 = true
             ·subst c34
              have H1 : ((impl_in.f ((rd_T37 l0 x19_2).f3) 0 (wrap64 (x19_2 - 1))).bind fun t213 => (if t213 = true then (if ((rd_T37 l0 x19_2).f2) = ((rd_T37 l0 x19_2).f3) then (impl_TimesValid.l0 k2 a1 l0 (l0.length : Int) (wrap64 (x19_2 + 1))) else (if ((rd_T37 l0 x19_2).f0) = 2 then (some false) else (if ((rd_T37 l0 x19_2).f0) = 5 then (some false) else (impl_TimesValid.l0 k2 a1 l0 (l0.length : Int) (wrap64 (x19_2 + 1)))))) else (some false))) = some r := by rw [if_pos rfl] at H; exact H
              clear H
              have H := H1
              clear H1
              replace H := Option.bind_eq_some_iff.mp H
              obtain ⟨t213, A350, H⟩ := H
              replace H : (if t213 = true then (if ((rd_T37 l0 x19_2).f2) = ((rd_T37 l0 x19_2).f3) then (impl_TimesValid.l0 k2 a1 l0 (l0.length : Int) (wrap64 (x19_2 + 1))) else (if ((rd_T37 l0 x19_2).f0) = 2 then (some false) else (if ((rd_T37 l0 x19_2).f0) = 5 then (some false) else (impl_TimesValid.l0 k2 a1 l0 (l0.length : Int) (wrap64 (x19_2 + 1)))))) else (some false)) = some r := H
              have A35 := Aside0.mk A350
              clear A350
              by_cases c36 : t213 = true
              ·subst c36
               have H1 : (if ((rd_T37 l0 x19_2).f2) = ((rd_T37 l0 x19_2).f3) then (impl_TimesValid.l0 k2 a1 l0 (l0.length : Int) (wrap64 (x19_2 + 1))) else (if ((rd_T37 l0 x19_2).f0) = 2 then (some false) else (if ((rd_T37 l0 x19_2).f0) = 5 then (some false) else (impl_TimesValid.l0 k2 a1 l0 (l0.length : Int) (wrap64 (x19_2 + 1)))))) = some r := by rw [if_pos rfl] at H; exact H
               clear H
               have H := H1
               clear H1
               by_cases c37 : ((rd_T37 l0 x19_2).f2) = ((rd_T37 l0 x19_2).f3)
               ·rw [if_pos c37] at H
                have c37b0 : (((rd_T37 l0 x19_2).f2) == ((rd_T37 l0 x19_2).f3)) = true := beq_iff_eq.mpr c37
                have c37b1 : (((rd_T37 l0 x19_2).f2) != ((rd_T37 l0 x19_2).f3)) = false := bne_eq_false_iff_eq.mpr c37
                clear c37
                have H' := Aside0.mk H
                clear H
                have p208 : 0 ≤ (x19_2 : Int) := oda
                have q208 : x19_2 < (l0.length : Int) := oda
                obtain ⟨ad208, e208, hx208_0, hx208_1, hx208_2, hx208_3⟩ := at_T37 HR0.out x19_2 p208 q208
                cases e208
                try replace hx208_0 := bct HB.out hx208_0
                try replace hx208_1 := bct HB.out hx208_1
                try replace hx208_2 := bct HB.out hx208_2
                try replace hx208_3 := bct HB.out hx208_3
                replace p208 := eq_true p208
                replace q208 := eq_true q208
                go_wp2_with (first | ((with_reducible refine gate_dst (N := 6) rfl ?_); (try (refine gate_guard (by rfl) ?_; dsimp only)); refine box_event ?hg (N := 6) ?hd (cs := #[.int .i64 0, .int .i64 0, .int .i64 0, .int .i64 0]) (t := 37) ?hr ?_; (case hd => rfl); (case hg => rfl); (case hr => first | (go_simp; done) | (go_simp; rfl)); intro gb209 hg w38 hbox hb; have n0_ := Aside0.mk (below_step (by repeat (first | (with_reducible first | exact HB.out | apply bwA | apply bwN | apply bwD) | exact HB.out)) hb); have n1_ := Aside0.mk (hbox); have n2_ := Aside0.mk ((by rw [hg]; exact (below_size (by repeat (first | (with_reducible first | exact HB.out | apply bwA | apply bwN | apply bwD) | exact HB.out))) : w.heap.size ≤ gb209)); have n3_ := Aside0.mk ((by rw [hg]; exact (below_size (by repeat (first | (with_reducible first | exact HB.out | apply bwA | apply bwN | apply bwD) | exact HB.out))) : w.heap.size ≤ gb209)); clear HB; have HB := n0_; have BK209 := n1_; have GW209 := n2_; have GE209 := n3_; clear n0_ n1_ n2_ n3_; clear hb hbox hg; have hcz39_0 : w38.cell? ⟨gb209, 0, none⟩ = some (.int .i64 0) := (blk_cell BK209.out 0).trans rfl; have hcz39_1 : w38.cell? ⟨gb209, 1, none⟩ = some (.int .i64 0) := (blk_cell BK209.out 1).trans rfl; have hcz39_2 : w38.cell? ⟨gb209, 2, none⟩ = some (.int .i64 0) := (blk_cell BK209.out 2).trans rfl; have hcz39_3 : w38.cell? ⟨gb209, 3, none⟩ = some (.int .i64 0) := (blk_cell BK209.out 3).trans rfl; have hfz39_0 := blk_frozen BK209.out 0; have hfz39_1 := blk_frozen BK209.out 1; have hfz39_2 := blk_frozen BK209.out 2; have hfz39_3 := blk_frozen BK209.out 3) | ((with_reducible refine gate_callee (f := 52) rfl ?_); refine goesL_ (some 26) rfl rfl Try.func52 (by kernel_rfl) rfl #[.int .i64 ((rd_T37 l0 x19_2).f0), .int .i64 0, .int .i64 7] rfl lmB ?_; (with_reducible refine (impl_in.calls ((rd_T37 l0 x19_2).f0) 0 7 true _ A11.out).mono ?_); rintro e w' ⟨rfl, ⟨nd, rfl⟩⟩; refine ⟨_, rfl, ?_⟩) | (go_at_call 52; (with_reducible refine (impl_in.calls ((rd_T37 l0 x19_2).f2) 0 (wrap64 (x19_2 - 1)) true _ A33.out).mono ?_); rintro e w' ⟨rfl, ⟨nd, rfl⟩⟩) | (go_at_call 52; (with_reducible refine (impl_in.calls ((rd_T37 l0 x19_2).f3) 0 (wrap64 (x19_2 - 1)) true _ A35.out).mono ?_); rintro e w' ⟨rfl, ⟨nd, rfl⟩⟩))
                go_roundg k2
                case measure => have := HJ2.out; have := HK2.out; omega
                case rel => exact ⟨(wrap64 (x19_2 + 1)), rsd, H', ⟨by have := HJ2.out; have := HK2.out; omega⟩, ⟨by repeat (first | (with_reducible first | exact HB.out | apply bwA | apply bwN | apply bwD | refine below_set ?_ GE209.out) | exact HB.out)⟩⟩
               ·rw [if_neg c37] at H
                have c37b0 : (((rd_T37 l0 x19_2).f2) == ((rd_T37 l0 x19_2).f3)) = false := beq_eq_false_iff_ne.mpr c37
                have c37b1 : (((rd_T37 l0 x19_2).f2) != ((rd_T37 l0 x19_2).f3)) = true := bne_iff_ne.mpr c37
                by_cases c40 : ((rd_T37 l0 x19_2).f0) = 2
                ·rw [if_pos c40] at H
                 have c40b0 : (((rd_T37 l0 x19_2).f0) == 2) = true := beq_iff_eq.mpr c40
                 have c40b1 : (((rd_T37 l0 x19_2).f0) != 2) = false := bne_eq_false_iff_eq.mpr c40
                 clear c40
                 obtain rfl := Option.some.inj H
                 have p208 : 0 ≤ (x19_2 : Int) := oda
                 have q208 : x19_2 < (l0.length : Int) := oda
                 obtain ⟨ad208, e208, hx208_0, hx208_1, hx208_2, hx208_3⟩ := at_T37 HR0.out x19_2 p208 q208
                 cases e208
                 try replace hx208_0 := bct HB.out hx208_0
                 try replace hx208_1 := bct HB.out hx208_1
                 try replace hx208_2 := bct HB.out hx208_2
                 try replace hx208_3 := bct HB.out hx208_3
                 replace p208 := eq_true p208
                 replace q208 := eq_true q208
                 go_wp2_with (first | ((with_reducible refine gate_dst (N := 6) rfl ?_); (try (refine gate_guard (by rfl) ?_; dsimp only)); refine box_event ?hg (N := 6) ?hd (cs := #[.int .i64 0, .int .i64 0, .int .i64 0, .int .i64 0]) (t := 37) ?hr ?_; (case hd => rfl); (case hg => rfl); (case hr => first | (go_simp; done) | (go_simp; rfl)); intro gb209 hg w41 hbox hb; have n0_ := Aside0.mk (below_step (by repeat (first | (with_reducible first | exact HB.out | apply bwA | apply bwN | apply bwD) | exact HB.out)) hb); have n1_ := Aside0.mk (hbox); have n2_ := Aside0.mk ((by rw [hg]; exact (below_size (by repeat (first | (with_reducible first | exact HB.out | apply bwA | apply bwN | apply bwD) | exact HB.out))) : w.heap.size ≤ gb209)); have n3_ := Aside0.mk ((by rw [hg]; exact (below_size (by repeat (first | (with_reducible first | exact HB.out | apply bwA | apply bwN | apply bwD) | exact HB.out))) : w.heap.size ≤ gb209)); clear HB; have HB := n0_; have BK209 := n1_; have GW209 := n2_; have GE209 := n3_; clear n0_ n1_ n2_ n3_; clear hb hbox hg; have hcz42_0 : w41.cell? ⟨gb209, 0, none⟩ = some (.int .i64 0) := (blk_cell BK209.out 0).trans rfl; have hcz42_1 : w41.cell? ⟨gb209, 1, none⟩ = some (.int .i64 0) := (blk_cell BK209.out 1).trans rfl; have hcz42_2 : w41.cell? ⟨gb209, 2, none⟩ = some (.int .i64 0) := (blk_cell BK209.out 2).trans rfl; have hcz42_3 : w41.cell? ⟨gb209, 3, none⟩ = some (.int .i64 0) := (blk_cell BK209.out 3).trans rfl; have hfz42_0 := blk_frozen BK209.out 0; have hfz42_1 := blk_frozen BK209.out 1; have hfz42_2 := blk_frozen BK209.out 2; have hfz42_3 := blk_frozen BK209.out 3) | ((with_reducible refine gate_callee (f := 52) rfl ?_); refine goesL_ (some 26) rfl rfl Try.func52 (by kernel_rfl) rfl #[.int .i64 ((rd_T37 l0 x19_2).f0), .int .i64 0, .int .i64 7] rfl lmB ?_; (with_reducible refine (impl_in.calls ((rd_T37 l0 x19_2).f0) 0 7 true _ A11.out).mono ?_); rintro e w' ⟨rfl, ⟨nd, rfl⟩⟩; refine ⟨_, rfl, ?_⟩) | (go_at_call 52; (with_reducible refine (impl_in.calls ((rd_T37 l0 x19_2).f2) 0 (wrap64 (x19_2 - 1)) true _ A33.out).mono ?_); rintro e w' ⟨rfl, ⟨nd, rfl⟩⟩) | (go_at_call 52; (with_reducible refine (impl_in.calls ((rd_T37 l0 x19_2).f3) 0 (wrap64 (x19_2 - 1)) true _ A35.out).mono ?_); rintro e w' ⟨rfl, ⟨nd, rfl⟩⟩))
                 go_ret
                 exact ⟨ers, by repeat (first | (with_reducible first | exact HB.out | apply bwA | apply bwN | apply bwD | refine below_set ?_ GE209.out) | exact HB.out)⟩
                ·rw [if_neg c40] at H
                 have c40b0 : (((rd_T37 l0 x19_2).f0) == 2) = false := beq_eq_false_iff_ne.mpr c40
                 have c40b1 : (((rd_T37 l0 x19_2).f0) != 2) = true := bne_iff_ne.mpr c40
                 by_cases c43 : ((rd_T37 l0 x19_2).f0) = 5
                 ·rw [if_pos c43] at H
                  have c43b0 : (((rd_T37 l0 x19_2).f0) == 5) = true := beq_iff_eq.mpr c43
                  have c43b1 : (((rd_T37 l0 x19_2).f0) != 5) = false := bne_eq_false_iff_eq.mpr c43
                  clear c43
                  obtain rfl := Option.some.inj H
                  have p208 : 0 ≤ (x19_2 : Int) := oda
                  have q208 : x19_2 < (l0.length : Int) := oda
                  obtain ⟨ad208, e208, hx208_0, hx208_1, hx208_2, hx208_3⟩ := at_T37 HR0.out x19_2 p208 q208
                  cases e208
                  try replace hx208_0 := bct HB.out hx208_0
                  try replace hx208_1 := bct HB.out hx208_1
                  try replace hx208_2 := bct HB.out hx208_2
                  try replace hx208_3 := bct HB.out hx208_3
                  replace p208 := eq_true p208
                  replace q208 := eq_true q208
                  go_wp2_with (first | ((with_reducible refine gate_dst (N := 6) rfl ?_); (try (refine gate_guard (by rfl) ?_; dsimp only)); refine box_event ?hg (N := 6) ?hd (cs := #[.int .i64 0, .int .i64 0, .int .i64 0, .int .i64 0]) (t := 37) ?hr ?_; (case hd => rfl); (case hg => rfl); (case hr => first | (go_simp; done) | (go_simp; rfl)); intro gb209 hg w44 hbox hb; have n0_ := Aside0.mk (below_step (by repeat (first | (with_reducible first | exact HB.out | apply bwA | apply bwN | apply bwD) | exact HB.out)) hb); have n1_ := Aside0.mk (hbox); have n2_ := Aside0.mk ((by rw [hg]; exact (below_size (by repeat (first | (with_reducible first | exact HB.out | apply bwA | apply bwN | apply bwD) | exact HB.out))) : w.heap.size ≤ gb209)); have n3_ := Aside0.mk ((by rw [hg]; exact (below_size (by repeat (first | (with_reducible first | exact HB.out | apply bwA | apply bwN | apply bwD) | exact HB.out))) : w.heap.size ≤ gb209)); clear HB; have HB := n0_; have BK209 := n1_; have GW209 := n2_; have GE209 := n3_; clear n0_ n1_ n2_ n3_; clear hb hbox hg; have hcz45_0 : w44.cell? ⟨gb209, 0, none⟩ = some (.int .i64 0) := (blk_cell BK209.out 0).trans rfl; have hcz45_1 : w44.cell? ⟨gb209, 1, none⟩ = some (.int .i64 0) := (blk_cell BK209.out 1).trans rfl; have hcz45_2 : w44.cell? ⟨gb209, 2, none⟩ = some (.int .i64 0) := (blk_cell BK209.out 2).trans rfl; have hcz45_3 : w44.cell? ⟨gb209, 3, none⟩ = some (.int .i64 0) := (blk_cell BK209.out 3).trans rfl; have hfz45_0 := blk_frozen BK209.out 0; have hfz45_1 := blk_frozen BK209.out 1; have hfz45_2 := blk_frozen BK209.out 2; have hfz45_3 := blk_frozen BK209.out 3) | ((with_reducible refine gate_callee (f := 52) rfl ?_); refine goesL_ (some 26) rfl rfl Try.func52 (by kernel_rfl) rfl #[.int .i64 ((rd_T37 l0 x19_2).f0), .int .i64 0, .int .i64 7] rfl lmB ?_; (with_reducible refine (impl_in.calls ((rd_T37 l0 x19_2).f0) 0 7 true _ A11.out).mono ?_); rintro e w' ⟨rfl, ⟨nd, rfl⟩⟩; refine ⟨_, rfl, ?_⟩) | (go_at_call 52; (with_reducible refine (impl_in.calls ((rd_T37 l0 x19_2).f2) 0 (wrap64 (x19_2 - 1)) true _ A33.out).mono ?_); rintro e w' ⟨rfl, ⟨nd, rfl⟩⟩) | (go_at_call 52; (with_reducible refine (impl_in.calls ((rd_T37 l0 x19_2).f3) 0 (wrap64 (x19_2 - 1)) true _ A35.out).mono ?_); rintro e w' ⟨rfl, ⟨nd, rfl⟩⟩))
                  go_ret
                  exact ⟨ers, by repeat (first | (with_reducible first | exact HB.out | apply bwA | apply bwN | apply bwD | refine below_set ?_ GE209.out) | exact HB.out)⟩
                 ·rw [if_neg c43] at H
                  have c43b0 : (((rd_T37 l0 x19_2).f0) == 5) = false := beq_eq_false_iff_ne.mpr c43
                  have c43b1 : (((rd_T37 l0 x19_2).f0) != 5) = true := bne_iff_ne.mpr c43
                  have H' := Aside0.mk H
                  clear H
                  have p208 : 0 ≤ (x19_2 : Int) := oda
                  have q208 : x19_2 < (l0.length : Int) := oda
                  obtain ⟨ad208, e208, hx208_0, hx208_1, hx208_2, hx208_3⟩ := at_T37 HR0.out x19_2 p208 q208
                  cases e208
                  try replace hx208_0 := bct HB.out hx208_0
                  try replace hx208_1 := bct HB.out hx208_1
                  try replace hx208_2 := bct HB.out hx208_2
                  try replace hx208_3 := bct HB.out hx208_3
                  replace p208 := eq_true p208
                  replace q208 := eq_true q208
                  go_wp2_with (first | ((with_reducible refine gate_dst (N := 6) rfl ?_); (try (refine gate_guard (by rfl) ?_; dsimp only)); refine box_event ?hg (N := 6) ?hd (cs := #[.int .i64 0, .int .i64 0, .int .i64 0, .int .i64 0]) (t := 37) ?hr ?_; (case hd => rfl); (case hg => rfl); (case hr => first | (go_simp; done) | (go_simp; rfl)); intro gb209 hg w46 hbox hb; have n0_ := Aside0.mk (below_step (by repeat (first | (with_reducible first | exact HB.out | apply bwA | apply bwN | apply bwD) | exact HB.out)) hb); have n1_ := Aside0.mk (hbox); have n2_ := Aside0.mk ((by rw [hg]; exact (below_size (by repeat (first | (with_reducible first | exact HB.out | apply bwA | apply bwN | apply bwD) | exact HB.out))) : w.heap.size ≤ gb209)); have n3_ := Aside0.mk ((by rw [hg]; exact (below_size (by repeat (first | (with_reducible first | exact HB.out | apply bwA | apply bwN | apply bwD) | exact HB.out))) : w.heap.size ≤ gb209)); clear HB; have HB := n0_; have BK209 := n1_; have GW209 := n2_; have GE209 := n3_; clear n0_ n1_ n2_ n3_; clear hb hbox hg; have hcz47_0 : w46.cell? ⟨gb209, 0, none⟩ = some (.int .i64 0) := (blk_cell BK209.out 0).trans rfl; have hcz47_1 : w46.cell? ⟨gb209, 1, none⟩ = some (.int .i64 0) := (blk_cell BK209.out 1).trans rfl; have hcz47_2 : w46.cell? ⟨gb209, 2, none⟩ = some (.int .i64 0) := (blk_cell BK209.out 2).trans rfl; have hcz47_3 : w46.cell? ⟨gb209, 3, none⟩ = some (.int .i64 0) := (blk_cell BK209.out 3).trans rfl; have hfz47_0 := blk_frozen BK209.out 0; have hfz47_1 := blk_frozen BK209.out 1; have hfz47_2 := blk_frozen BK209.out 2; have hfz47_3 := blk_frozen BK209.out 3) | ((with_reducible refine gate_callee (f := 52) rfl ?_); refine goesL_ (some 26) rfl rfl Try.func52 (by kernel_rfl) rfl #[.int .i64 ((rd_T37 l0 x19_2).f0), .int .i64 0, .int .i64 7] rfl lmB ?_; (with_reducible refine (impl_in.calls ((rd_T37 l0 x19_2).f0) 0 7 true _ A11.out).mono ?_); rintro e w' ⟨rfl, ⟨nd, rfl⟩⟩; refine ⟨_, rfl, ?_⟩) | (go_at_call 52; (with_reducible refine (impl_in.calls ((rd_T37 l0 x19_2).f2) 0 (wrap64 (x19_2 - 1)) true _ A33.out).mono ?_); rintro e w' ⟨rfl, ⟨nd, rfl⟩⟩) | (go_at_call 52; (with_reducible refine (impl_in.calls ((rd_T37 l0 x19_2).f3) 0 (wrap64 (x19_2 - 1)) true _ A35.out).mono ?_); rintro e w' ⟨rfl, ⟨nd, rfl⟩⟩))
                  go_roundg k2
                  case measure => have := HJ2.out; have := HK2.out; omega
                  case rel => exact ⟨(wrap64 (x19_2 + 1)), rsd, H', ⟨by have := HJ2.out; have := HK2.out; omega⟩, ⟨by repeat (first | (with_reducible first | exact HB.out | apply bwA | apply bwN | apply bwD | refine below_set ?_ GE209.out) | exact HB.out)⟩⟩
              ·replace c36 := Bool.eq_false_iff.mpr c36
               subst c36
               have H1 : (some false) = some r := by rw [if_neg (show ¬ (false = true) by decide)] at H; exact H
               clear H
               have H := H1
               clear H1
               obtain rfl := Option.some.inj H
               have p208 : 0 ≤ (x19_2 : Int) := oda
               have q208 : x19_2 < (l0.length : Int) := oda
               obtain ⟨ad208, e208, hx208_0, hx208_1, hx208_2, hx208_3⟩ := at_T37 HR0.out x19_2 p208 q208
               cases e208
               try replace hx208_0 := bct HB.out hx208_0
               try replace hx208_1 := bct HB.out hx208_1
               try replace hx208_2 := bct HB.out hx208_2
               try replace hx208_3 := bct HB.out hx208_3
               replace p208 := eq_true p208
               replace q208 := eq_true q208
               go_wp2_with (first | ((with_reducible refine gate_dst (N := 6) rfl ?_); (try (refine gate_guard (by rfl) ?_; dsimp only)); refine box_event ?hg (N := 6) ?hd (cs := #[.int .i64 0, .int .i64 0, .int .i64 0, .int .i64 0]) (t := 37) ?hr ?_; (case hd => rfl); (case hg => rfl); (case hr => first | (go_simp; done) | (go_simp; rfl)); intro gb209 hg w48 hbox hb; have n0_ := Aside0.mk (below_step (by repeat (first | (with_reducible first | exact HB.out | apply bwA | apply bwN | apply bwD) | exact HB.out)) hb); have n1_ := Aside0.mk (hbox); have n2_ := Aside0.mk ((by rw [hg]; exact (below_size (by repeat (first | (with_reducible first | exact HB.out | apply bwA | apply bwN | apply bwD) | exact HB.out))) : w.heap.size ≤ gb209)); have n3_ := Aside0.mk ((by rw [hg]; exact (below_size (by repeat (first | (with_reducible first | exact HB.out | apply bwA | apply bwN | apply bwD) | exact HB.out))) : w.heap.size ≤ gb209)); clear HB; have HB := n0_; have BK209 := n1_; have GW209 := n2_; have GE209 := n3_; clear n0_ n1_ n2_ n3_; clear hb hbox hg; have hcz49_0 : w48.cell? ⟨gb209, 0, none⟩ = some (.int .i64 0) := (blk_cell BK209.out 0).trans rfl; have hcz49_1 : w48.cell? ⟨gb209, 1, none⟩ = some (.int .i64 0) := (blk_cell BK209.out 1).trans rfl; have hcz49_2 : w48.cell? ⟨gb209, 2, none⟩ = some (.int .i64 0) := (blk_cell BK209.out 2).trans rfl; have hcz49_3 : w48.cell? ⟨gb209, 3, none⟩ = some (.int .i64 0) := (blk_cell BK209.out 3).trans rfl; have hfz49_0 := blk_frozen BK209.out 0; have hfz49_1 := blk_frozen BK209.out 1; have hfz49_2 := blk_frozen BK209.out 2; have hfz49_3 := blk_frozen BK209.out 3) | ((with_reducible refine gate_callee (f := 52) rfl ?_); refine goesL_ (some 26) rfl rfl Try.func52 (by kernel_rfl) rfl #[.int .i64 ((rd_T37 l0 x19_2).f0), .int .i64 0, .int .i64 7] rfl lmB ?_; (with_reducible refine (impl_in.calls ((rd_T37 l0 x19_2).f0) 0 7 true _ A11.out).mono ?_); rintro e w' ⟨rfl, ⟨nd, rfl⟩⟩; refine ⟨_, rfl, ?_⟩) | (go_at_call 52; (with_reducible refine (impl_in.calls ((rd_T37 l0 x19_2).f2) 0 (wrap64 (x19_2 - 1)) true _ A33.out).mono ?_); rintro e w' ⟨rfl, ⟨nd, rfl⟩⟩) | (go_at_call 52; (with_reducible refine (impl_in.calls ((rd_T37 l0 x19_2).f3) 0 (wrap64 (x19_2 - 1)) false _ A35.out).mono ?_); rintro e w' ⟨rfl, ⟨nd, rfl⟩⟩))
               go_ret
               exact ⟨ers, by repeat (first | (with_reducible first | exact HB.out | apply bwA | apply bwN | apply bwD | refine below_set ?_ GE209.out) | exact HB.out)⟩
             ·replace c34 := Bool.eq_false_iff.mpr c34
              subst c34
              have H1 : (some false) = some r := by rw [if_neg (show ¬ (false = true) by decide)] at H; exact H
              clear H
              have H := H1
              clear H1
              obtain rfl := Option.some.inj H
              have p208 : 0 ≤ (x19_2 : Int) := oda
              have q208 : x19_2 < (l0.length : Int) := oda
              obtain ⟨ad208, e208, hx208_0, hx208_1, hx208_2, hx208_3⟩ := at_T37 HR0.out x19_2 p208 q208
              cases e208
              try replace hx208_0 := bct HB.out hx208_0
              try replace hx208_1 := bct HB.out hx208_1
              try replace hx208_2 := bct HB.out hx208_2
              try replace hx208_3 := bct HB.out hx208_3
              replace p208 := eq_true p208
              replace q208 := eq_true q208
              go_wp2_with (first | ((with_reducible refine gate_dst (N := 6) rfl ?_); (try (refine gate_guard (by rfl) ?_; dsimp only)); refine box_event ?hg (N := 6) ?hd (cs := #[.int .i64 0, .int .i64 0, .int .i64 0, .int .i64 0]) (t := 37) ?hr ?_; (case hd => rfl); (case hg => rfl); (case hr => first | (go_simp; done) | (go_simp; rfl)); intro gb209 hg w50 hbox hb; have n0_ := Aside0.mk (below_step (by repeat (first | (with_reducible first | exact HB.out | apply bwA | apply bwN | apply bwD) | exact HB.out)) hb); have n1_ := Aside0.mk (hbox); have n2_ := Aside0.mk ((by rw [hg]; exact (below_size (by repeat (first | (with_reducible first | exact HB.out | apply bwA | apply bwN | apply bwD) | exact HB.out))) : w.heap.size ≤ gb209)); have n3_ := Aside0.mk ((by rw [hg]; exact (below_size (by repeat (first | (with_reducible first | exact HB.out | apply bwA | apply bwN | apply bwD) | exact HB.out))) : w.heap.size ≤ gb209)); clear HB; have HB := n0_; have BK209 := n1_; have GW209 := n2_; have GE209 := n3_; clear n0_ n1_ n2_ n3_; clear hb hbox hg; have hcz51_0 : w50.cell? ⟨gb209, 0, none⟩ = some (.int .i64 0) := (blk_cell BK209.out 0).trans rfl; have hcz51_1 : w50.cell? ⟨gb209, 1, none⟩ = some (.int .i64 0) := (blk_cell BK209.out 1).trans rfl; have hcz51_2 : w50.cell? ⟨gb209, 2, none⟩ = some (.int .i64 0) := (blk_cell BK209.out 2).trans rfl; have hcz51_3 : w50.cell? ⟨gb209, 3, none⟩ = some (.int .i64 0) := (blk_cell BK209.out 3).trans rfl; have hfz51_0 := blk_frozen BK209.out 0; have hfz51_1 := blk_frozen BK209.out 1; have hfz51_2 := blk_frozen BK209.out 2; have hfz51_3 := blk_frozen BK209.out 3) | ((with_reducible refine gate_callee (f := 52) rfl ?_); refine goesL_ (some 26) rfl rfl Try.func52 (by kernel_rfl) rfl #[.int .i64 ((rd_T37 l0 x19_2).f0), .int .i64 0, .int .i64 7] rfl lmB ?_; (with_reducible refine (impl_in.calls ((rd_T37 l0 x19_2).f0) 0 7 true _ A11.out).mono ?_); rintro e w' ⟨rfl, ⟨nd, rfl⟩⟩; refine ⟨_, rfl, ?_⟩) | (go_at_call 52; (with_reducible refine (impl_in.calls ((rd_T37 l0 x19_2).f2) 0 (wrap64 (x19_2 - 1)) false _ A33.out).mono ?_); rintro e w' ⟨rfl, ⟨nd, rfl⟩⟩))
              go_ret
              exact ⟨ers, by repeat (first | (with_reducible first | exact HB.out | apply bwA | apply bwN | apply bwD | refine below_set ?_ GE209.out) | exact HB.out)⟩
            ·rw [if_neg c32] at H
             have c32b0 : (((rd_T37 l0 x19_2).f1) == 0) = false := beq_eq_false_iff_ne.mpr c32
             have c32b1 : (((rd_T37 l0 x19_2).f1) != 0) = true := bne_iff_ne.mpr c32
             obtain rfl := Option.some.inj H
             have p208 : 0 ≤ (x19_2 : Int) := oda
             have q208 : x19_2 < (l0.length : Int) := oda
             obtain ⟨ad208, e208, hx208_0, hx208_1, hx208_2, hx208_3⟩ := at_T37 HR0.out x19_2 p208 q208
             cases e208
             try replace hx208_0 := bct HB.out hx208_0
             try replace hx208_1 := bct HB.out hx208_1
             try replace hx208_2 := bct HB.out hx208_2
             try replace hx208_3 := bct HB.out hx208_3
             replace p208 := eq_true p208
             replace q208 := eq_true q208
             go_wp2_with (first | ((with_reducible refine gate_dst (N := 6) rfl ?_); (try (refine gate_guard (by rfl) ?_; dsimp only)); refine box_event ?hg (N := 6) ?hd (cs := #[.int .i64 0, .int .i64 0, .int .i64 0, .int .i64 0]) (t := 37) ?hr ?_; (case hd => rfl); (case hg => rfl); (case hr => first | (go_simp; done) | (go_simp; rfl)); intro gb209 hg w52 hbox hb; have n0_ := Aside0.mk (below_step (by repeat (first | (with_reducible first | exact HB.out | apply bwA | apply bwN | apply bwD) | exact HB.out)) hb); have n1_ := Aside0.mk (hbox); have n2_ := Aside0.mk ((by rw [hg]; exact (below_size (by repeat (first | (with_reducible first | exact HB.out | apply bwA | apply bwN | apply bwD) | exact HB.out))) : w.heap.size ≤ gb209)); have n3_ := Aside0.mk ((by rw [hg]; exact (below_size (by repeat (first | (with_reducible first | exact HB.out | apply bwA | apply bwN | apply bwD) | exact HB.out))) : w.heap.size ≤ gb209)); clear HB; have HB := n0_; have BK209 := n1_; have GW209 := n2_; have GE209 := n3_; clear n0_ n1_ n2_ n3_; clear hb hbox hg; have hcz53_0 : w52.cell? ⟨gb209, 0, none⟩ = some (.int .i64 0) := (blk_cell BK209.out 0).trans rfl; have hcz53_1 : w52.cell? ⟨gb209, 1, none⟩ = some (.int .i64 0) := (blk_cell BK209.out 1).trans rfl; have hcz53_2 : w52.cell? ⟨gb209, 2, none⟩ = some (.int .i64 0) := (blk_cell BK209.out 2).trans rfl; have hcz53_3 : w52.cell? ⟨gb209, 3, none⟩ = some (.int .i64 0) := (blk_cell BK209.out 3).trans rfl; have hfz53_0 := blk_frozen BK209.out 0; have hfz53_1 := blk_frozen BK209.out 1; have hfz53_2 := blk_frozen BK209.out 2; have hfz53_3 := blk_frozen BK209.out 3) | ((with_reducible refine gate_callee (f := 52) rfl ?_); refine goesL_ (some 26) rfl rfl Try.func52 (by kernel_rfl) rfl #[.int .i64 ((rd_T37 l0 x19_2).f0), .int .i64 0, .int .i64 7] rfl lmB ?_; (with_reducible refine (impl_in.calls ((rd_T37 l0 x19_2).f0) 0 7 true _ A11.out).mono ?_); rintro e w' ⟨rfl, ⟨nd, rfl⟩⟩; refine ⟨_, rfl, ?_⟩))
             go_ret
             exact ⟨ers, by repeat (first | (with_reducible first | exact HB.out | apply bwA | apply bwN | apply bwD | refine below_set ?_ GE209.out) | exact HB.out)⟩
           ·replace c31 := Bool.eq_false_iff.mpr c31
            subst c31
            have H1 : (some false) = some r := by rw [if_neg (show ¬ (false = true) by decide)] at H; exact H
            clear H
            have H := H1
            clear H1
            obtain rfl := Option.some.inj H
            have p208 : 0 ≤ (x19_2 : Int) := oda
            have q208 : x19_2 < (l0.length : Int) := oda
            obtain ⟨ad208, e208, hx208_0, hx208_1, hx208_2, hx208_3⟩ := at_T37 HR0.out x19_2 p208 q208
            cases e208
            try replace hx208_0 := bct HB.out hx208_0
            try replace hx208_1 := bct HB.out hx208_1
            try replace hx208_2 := bct HB.out hx208_2
            try replace hx208_3 := bct HB.out hx208_3
            replace p208 := eq_true p208
            replace q208 := eq_true q208
            go_wp2_with (first | ((with_reducible refine gate_dst (N := 6) rfl ?_); (try (refine gate_guard (by rfl) ?_; dsimp only)); refine box_event ?hg (N := 6) ?hd (cs := #[.int .i64 0, .int .i64 0, .int .i64 0, .int .i64 0]) (t := 37) ?hr ?_; (case hd => rfl); (case hg => rfl); (case hr => first | (go_simp; done) | (go_simp; rfl)); intro gb209 hg w54 hbox hb; have n0_ := Aside0.mk (below_step (by repeat (first | (with_reducible first | exact HB.out | apply bwA | apply bwN | apply bwD) | exact HB.out)) hb); have n1_ := Aside0.mk (hbox); have n2_ := Aside0.mk ((by rw [hg]; exact (below_size (by repeat (first | (with_reducible first | exact HB.out | apply bwA | apply bwN | apply bwD) | exact HB.out))) : w.heap.size ≤ gb209)); have n3_ := Aside0.mk ((by rw [hg]; exact (below_size (by repeat (first | (with_reducible first | exact HB.out | apply bwA | apply bwN | apply bwD) | exact HB.out))) : w.heap.size ≤ gb209)); clear HB; have HB := n0_; have BK209 := n1_; have GW209 := n2_; have GE209 := n3_; clear n0_ n1_ n2_ n3_; clear hb hbox hg; have hcz55_0 : w54.cell? ⟨gb209, 0, none⟩ = some (.int .i64 0) := (blk_cell BK209.out 0).trans rfl; have hcz55_1 : w54.cell? ⟨gb209, 1, none⟩ = some (.int .i64 0) := (blk_cell BK209.out 1).trans rfl; have hcz55_2 : w54.cell? ⟨gb209, 2, none⟩ = some (.int .i64 0) := (blk_cell BK209.out 2).trans rfl; have hcz55_3 : w54.cell? ⟨gb209, 3, none⟩ = some (.int .i64 0) := (blk_cell BK209.out 3).trans rfl; have hfz55_0 := blk_frozen BK209.out 0; have hfz55_1 := blk_frozen BK209.out 1; have hfz55_2 := blk_frozen BK209.out 2; have hfz55_3 := blk_frozen BK209.out 3) | ((with_reducible refine gate_callee (f := 52) rfl ?_); refine goesL_ (some 26) rfl rfl Try.func52 (by kernel_rfl) rfl #[.int .i64 ((rd_T37 l0 x19_2).f0), .int .i64 0, .int .i64 7] rfl lmB ?_; (with_reducible refine (impl_in.calls ((rd_T37 l0 x19_2).f0) 0 7 false _ A11.out).mono ?_); rintro e w' ⟨rfl, ⟨nd, rfl⟩⟩; refine ⟨_, rfl, ?_⟩))
            go_ret
            exact ⟨ers, by repeat (first | (with_reducible first | exact HB.out | apply bwA | apply bwN | apply bwD | refine below_set ?_ GE209.out) | exact HB.out)⟩
        ·rw [if_neg c10] at H
         exact absurd H (by simp)
       ·rw [if_neg c9] at H
        exact absurd H (by simp)
      ·rw [if_neg c8] at H
       have c8b0 : decide (x19_2 < (l0.length : Int)) = false := decide_eq_false c8
       clear c8
       obtain rfl := Option.some.inj H
       go_wp2
       go_ret
       exact ⟨ers, by repeat (first | (with_reducible first | exact HB.out | apply bwA | apply bwN | apply bwD) | exact HB.out)⟩

/-! ### impl_clone_int: function 61 -/
def impl_clone_int.f (l0 : List Int) : Option (List Int) := if l0.length ≤ 35184372088832 then some l0 else none
set_option maxHeartbeats 400000 in
set_option maxRecDepth 100000 in
theorem impl_clone_int.calls (A0 : Option Addr) (c0 : Nat) (l0 : List Int) (r : List Int) (w : World) (hr0 : Kd.C (Kd.int .i64) w A0 l0.length l0) (hc0 : l0.length ≤ c0) (h : impl_clone_int.f l0 = some r) :
  Calls Try.prog 61 #[.slice A0 l0.length c0] w fun e w' => ∃ v0_ : Value, e = .returned (v0_) ∧ Kd.R (Kd.int .i64) 3 w' w.heap.size (fun _ => True) v0_ r ∧ Below w.heap.size w w' := by
 unfold impl_clone_int.f at h
 by_cases c1 : l0.length ≤ 35184372088832
 ·rw [if_pos c1] at h
  obtain rfl := Option.some.inj h
  clear h
  have HR0 := Aside0.mk hr0
  have C1 := Aside0.mk c1
  clear hr0 c1
  by_cases c2 : l0.length = 0
  ·have c2b : ((l0.length : Int) == 0) = true := by rw [beq_iff_eq]; omega
   have HL := Aside0.mk (List.eq_nil_of_length_eq_zero c2)
   clear c2
   go_enter Try.func61, Try.ntmps61
   go_wp2
   go_ret
   exact ⟨_, rfl, by rw [HL.out]; exact Kd.R_nil _ _ _ _ _, Below.refl _ _⟩
  ·have c2b : ((l0.length : Int) == 0) = false := by rw [beq_eq_false_iff_ne]; omega
   have c2c : (l0.length == 0) = false := by rw [beq_eq_false_iff_ne]; omega
   go_enter Try.func61, Try.ntmps61
   go_wp2_with (first | ((with_reducible refine gate_dst (N := 9) rfl ?_); refine Kd.R_make (Kd.int .i64) _ 3 rfl (N := 9) rfl 33 _ _ rfl (l0.length : Int) rfl rfl Try.underlying33 (.int .i64 0) 8 info3 rfl (by decide) (by omega) 0 (ok := fun _ => True) (okp := fun _ => True) rfl (fun _ hk => hk) trivial (by omega) (by have := C1.out; omega) (Below.refl _ _) (Nat.le_refl _) ?_; intro v178 w4 ho5 hb hg_ hnew_; clear hg_ hnew_; have HO := Aside0.mk ho5; have HB := Aside0.mk hb; clear hb ho5) | ((with_reducible refine gate_dst (N := 12) rfl ?_); refine Copy.R_copy (w0 := w) (xs := List.replicate (l0.length : Int).toNat 0) (ys := l0) w.heap.size 3 rfl _ _ 33 33 rfl Try.underlying33 (by kernel_rfl) rfl rfl (by simp) HO.out (Kd.C_below HR0.out HB.out) HB.out ?_; intro w5 ho5 hb; clear HB; have HO5 := Aside0.mk ho5; have HB := Aside0.mk hb; clear hb ho5))
   go_ret
   exact ⟨_, rfl, HO5.out, HB.out⟩
 ·rw [if_neg c1] at h
  exact absurd h (by simp)

/-! ### impl_guessed: function 57 -/
def impl_guessed.l0 : Nat → Int → List Int → List (S37) → Int → Int → Option (List Int × Bool)
 | 0, _, _, _, _, _ => none
 | k + 1, x1, x6, x13, x14, x15 => if x15 < x14 then (if 0 ≤ x15 then (if x15 < (x13.length : Int) then (if ((rd_T37 x13 x15).f0) ≥ 5 then (if x6.length < 17592186044416 then (impl_guessed.l0 k x1 (x6 ++ [x15]) x13 x14 (wrap64 (x15 + 1))) else (none)) else (impl_guessed.l0 k x1 x6 x13 x14 (wrap64 (x15 + 1)))) else (none)) else (none)) else ((impl_clone_int.f x6).bind fun t220 => (some (t220, decide ((wrap64 (x1 + (x6.length : Int))) ≤ 7))))
def impl_guessed.f (k : Nat) (l0 : List (S37)) (a1 : Int) : Option (List Int × Bool) := (impl_TimesValid.f k l0 a1).bind fun t214 => (if t214 = true then (impl_guessed.l0 k a1 ([] : List Int) l0 (l0.length : Int) 0) else (some (([] : List Int), false)))
theorem impl_guessed.mono_l : ∀ k, (∀ y0 y1 y2 y3 y4, LeO (impl_guessed.l0 k y0 y1 y2 y3 y4) (impl_guessed.l0 (k + 1) y0 y1 y2 y3 y4))
 | 0 => fun _ _ _ _ _ r h => by simp [impl_guessed.l0] at h
 | k + 1 => by
  have ih0 := impl_guessed.mono_l k
  ·intro y0 y1 y2 y3 y4
   unfold impl_guessed.l0
   repeat' first
   | (with_reducible exact ih0 _ _ _ _ _)
   | (with_reducible exact impl_TimesValid.mono _ _ _)
   | (with_reducible exact LeO.refl _)
   | (with_reducible exact LeO.none _)
   | (with_reducible refine LeO.ite ?_ ?_)
   | (with_reducible refine LeO.bind ?_ (fun _ => ?_))
   | exact ih0 _ _ _ _ _
   | exact impl_TimesValid.mono _ _ _
   | exact LeO.none _
   | refine LeO.ite ?_ ?_
   | refine LeO.bind ?_ (fun _ => ?_)
theorem impl_guessed.mono : ∀ a0 a1 k, LeO (impl_guessed.f k a0 a1) (impl_guessed.f (k + 1) a0 a1) := by
 intro a0 a1 k
 have ih0 := impl_guessed.mono_l k
 unfold impl_guessed.f
 repeat' first
   | (with_reducible exact ih0 _ _ _ _ _)
   | (with_reducible exact impl_TimesValid.mono _ _ _)
   | (with_reducible exact LeO.refl _)
   | (with_reducible exact LeO.none _)
   | (with_reducible refine LeO.ite ?_ ?_)
   | (with_reducible refine LeO.bind ?_ (fun _ => ?_))
   | exact ih0 _ _ _ _ _
   | exact impl_TimesValid.mono _ _ _
   | exact LeO.none _
   | refine LeO.ite ?_ ?_
   | refine LeO.bind ?_ (fun _ => ?_)
set_option maxHeartbeats 8000000 in
set_option maxRecDepth 100000 in
theorem impl_guessed.calls (k : Nat) (A0 : Option Addr) (c0 : Nat) (l0 : List (S37)) (a1 : Int) (r1 : List Int) (r2 : Bool) (w : World) (hr0 : Kd.C k37 w A0 l0.length l0) (hc0 : l0.length ≤ c0) (h : impl_guessed.f k l0 a1 = some (r1, r2)) :
  Calls Try.prog 57 #[.slice A0 l0.length c0, .int .i64 a1] w fun e w' => ∃ v0_ : Value, e = .returned (.tuple #[v0_, .bool r2]) ∧ Kd.R (Kd.int .i64) 3 w' w.heap.size (fun _ => True) v0_ r1 ∧ Below w.heap.size w w' := by
 have hu37 := Try.underlying37
 have HR0 := Aside0.mk hr0
 have HC0 := Aside0.mk hc0
 clear hr0 hc0
 have HB := Aside0.mk (Below.refl w.heap.size w)
 have H : ((impl_TimesValid.f k l0 a1).bind fun t214 => (if t214 = true then (impl_guessed.l0 k a1 ([] : List Int) l0 (l0.length : Int) 0) else (some (([] : List Int), false)))) = some (r1, r2) := h
 clear h
 replace H := Option.bind_eq_some_iff.mp H
 obtain ⟨t214, A30, H⟩ := H
 replace H : (if t214 = true then (impl_guessed.l0 k a1 ([] : List Int) l0 (l0.length : Int) 0) else (some (([] : List Int), false))) = some (r1, r2) := H
 have A3 := Aside0.mk A30
 clear A30
 by_cases c4 : t214 = true
 ·subst c4
  have H1 : (impl_guessed.l0 k a1 ([] : List Int) l0 (l0.length : Int) 0) = some (r1, r2) := by rw [if_pos rfl] at H; exact H
  clear H
  have H := H1
  clear H1
  have H' := Aside0.mk H
  clear H
  go_enter Try.func57, Try.ntmps57
  go_wp2_with (first | ((with_reducible refine gate_callee (f := 41) rfl ?_); refine goesL_ (some 11) rfl rfl Try.func41 (by kernel_rfl) rfl #[.slice A0 l0.length c0, .int .i64 a1] rfl lmB ?_; (with_reducible refine (impl_TimesValid.calls k _ _ l0 a1 true _ ?side1 ?side2 A3.out).mono ?_); (case side1 => repeat (first | exact HR0.out | (with_reducible refine Kd.C_alloc ?_ _) | (with_reducible refine Kd.C_drewN ?_ _) | (with_reducible refine Kd.C_drew ?_))); (case side2 => exact HC0.out); rintro e w5 ⟨rfl, hb⟩; refine ⟨_, rfl, ?_⟩; have n0_ := Aside0.mk (below_step (by repeat (first | (with_reducible first | exact HB.out | apply bwA | apply bwN | apply bwD) | exact HB.out)) hb); clear HB; have HB := n0_; clear n0_; (try clear hb); (try clear hb2); (try clear hk); (try clear hi)))
  go_loopg [6, 15] k (fun kq v6 v15 w' => ∃ (x6_1 : List Int) (x15_1 : Int), v15 = .int .i64 x15_1 ∧ Aside0 (impl_guessed.l0 kq a1 x6_1 l0 (l0.length : Int) x15_1 = some (r1, r2)) ∧ Aside0 (kq ≤ k) ∧ Aside0 (Kd.R (Kd.int .i64) 3 w' w.heap.size (fun _ => True) v6 x6_1) ∧ Aside0 (Below w.heap.size w w'))
  case atStart => exact ⟨(([] : List Int)), (0), rsd, H', ⟨Nat.le_refl _⟩, ⟨by first | exact Kd.R_nil _ _ _ _ _ | exact Kd.N_nil _ _ _ _ _ | exact Kd.V_nil _ _ _ _ _ | exact Kd.Q_nil _ _ _ _ _ | exact Kd.S_nil _ _ _ _ _⟩, ⟨by repeat (first | (with_reducible first | exact HB.out | apply bwA | apply bwN | apply bwD) | exact HB.out)⟩⟩
  case round =>
   clear H'
   try clear p2
   try clear c4
   try clear c5
   obtain ⟨x6_1, x15_1, rfl, HA, HK1, HO_6, HB⟩ := hrel
   cases gk with
   | zero => exact absurd HA.out (by simp [impl_guessed.l0])
   | succ k1 =>
    have H := HA.out
    clear HA
    simp only [impl_guessed.l0] at H
    by_cases c6 : x15_1 < (l0.length : Int)
    ·rw [if_pos c6] at H
     have c6b0 : decide (x15_1 < (l0.length : Int)) = true := decide_eq_true c6
     clear c6
     by_cases c7 : 0 ≤ x15_1
     ·rw [if_pos c7] at H
      have c7b0 : decide (0 ≤ x15_1) = true := decide_eq_true c7
      clear c7
      by_cases c8 : x15_1 < (l0.length : Int)
      ·rw [if_pos c8] at H
       have c8b0 : decide (x15_1 < (l0.length : Int)) = true := decide_eq_true c8
       clear c8
       by_cases c9 : ((rd_T37 l0 x15_1).f0) ≥ 5
       ·rw [if_pos c9] at H
        have c9b0 : decide (5 ≤ ((rd_T37 l0 x15_1).f0)) = true := decide_eq_true c9
        clear c9
        by_cases c10 : x6_1.length < 17592186044416
        ·rw [if_pos c10] at H
         have LMc10 := Aside0.mk c10
         clear c10
         obtain ⟨y217, hy217⟩ : ∃ y_ : List Int, y_ = (x6_1 ++ [x15_1]) := ⟨_, rfl⟩
         replace H : (impl_guessed.l0 k1 a1 y217 l0 (l0.length : Int) (wrap64 (x15_1 + 1))) = some (r1, r2) := by first | (rw [hy217]; with_reducible exact H) | (have H2_ := (Option.bind_some _ _).symm.trans H; rw [hy217]; with_reducible exact H2_) | (have H2_ := (Option.bind_some _ _).symm.trans H; with_reducible exact H2_) | with_reducible exact H | (rw [hy217]; exact H) | exact H
         have Ny217 := Aside0.mk hy217
         clear hy217
         have H' := Aside0.mk H
         clear H
         have p215 : 0 ≤ (x15_1 : Int) := oda
         have q215 : x15_1 < (l0.length : Int) := oda
         obtain ⟨ad215, e215, hx215_0, hx215_1, hx215_2, hx215_3⟩ := at_T37 HR0.out x15_1 p215 q215
         cases e215
         try replace hx215_0 := bct HB.out hx215_0
         try replace hx215_1 := bct HB.out hx215_1
         try replace hx215_2 := bct HB.out hx215_2
         try replace hx215_3 := bct HB.out hx215_3
         replace p215 := eq_true p215
         replace q215 := eq_true q215
         go_wp2_with (first | ((with_reducible refine gate_dst (N := 8) rfl ?_); refine box_event ?hg (N := 8) ?hd (cs := #[.int .i64 0, .int .i64 0, .int .i64 0, .int .i64 0]) (t := 37) ?hr ?_; (case hd => rfl); (case hg => rfl); (case hr => first | (go_simp; done) | (go_simp; rfl)); intro gb216 hg w11 hbox hb; have n0_ := Aside0.mk (Kd.R_below (rvR HO_6.out) hb); have n1_ := Aside0.mk (below_step (by repeat (first | (with_reducible first | exact HB.out | apply bwA | apply bwN | apply bwD) | exact HB.out)) hb); have n2_ := Aside0.mk (hbox); have n3_ := Aside0.mk ((by rw [hg]; exact (below_size (by repeat (first | (with_reducible first | exact HB.out | apply bwA | apply bwN | apply bwD) | exact HB.out))) : w.heap.size ≤ gb216)); have n4_ := Aside0.mk ((by rw [hg]; exact (below_size (by repeat (first | (with_reducible first | exact HB.out | apply bwA | apply bwN | apply bwD) | exact HB.out))) : w.heap.size ≤ gb216)); clear HO_6; clear HB; have HO_6 := n0_; have HB := n1_; have BK216 := n2_; have GW216 := n3_; have GE216 := n4_; clear n0_ n1_ n2_ n3_ n4_; clear hb hbox hg; have hcz12_0 : w11.cell? ⟨gb216, 0, none⟩ = some (.int .i64 0) := (blk_cell BK216.out 0).trans rfl; have hcz12_1 : w11.cell? ⟨gb216, 1, none⟩ = some (.int .i64 0) := (blk_cell BK216.out 1).trans rfl; have hcz12_2 : w11.cell? ⟨gb216, 2, none⟩ = some (.int .i64 0) := (blk_cell BK216.out 2).trans rfl; have hcz12_3 : w11.cell? ⟨gb216, 3, none⟩ = some (.int .i64 0) := (blk_cell BK216.out 3).trans rfl; have hfz12_0 := blk_frozen BK216.out 0; have hfz12_1 := blk_frozen BK216.out 1; have hfz12_2 := blk_frozen BK216.out 2; have hfz12_3 := blk_frozen BK216.out 3) | ((with_reducible refine gate_builtin (b := .append) (xs := #[.tmp 23, .tmp 25]) rfl ?_); at_builtin; refine Kd.R_append (Kd.int .i64) (w0 := w) w.heap.size rfl (.tmp 23) (.tmp 25) 33 3 (.int .i64 0) 8 rfl Try.underlying33 info3 rfl (by decide) (by omega) u6 x6_1 x15_1 [.int .i64 x15_1] (fun _ => True) (fun _ => False) rfl (by first | (go_simp; done) | (go_simp; rfl)) ?aP (fun _ hk => hk.elim) ?aF ?aO ?aB ?aS ?aL ?_; (case aP => exact rfl); (case aB => exact (by repeat (first | (with_reducible first | exact HB.out | apply bwA | apply bwN | apply bwD | refine below_set ?_ GE216.out) | exact HB.out))); (case aF => exact (fun _ _ => trivial)); (case aO => exact (by (with_reducible repeat (first | apply Kd.R_alloc | apply Kd.R_drewN | apply Kd.R_drew)); exact Kd.R_mono (Kd.R_far (p := ⟨gb216, 3, none⟩) (Kd.R_far (p := ⟨gb216, 2, none⟩) (Kd.R_far (p := ⟨gb216, 1, none⟩) (Kd.R_far (p := ⟨gb216, 0, none⟩) (Kd.R_types HO_6.out BK216.out (by decide)) (fun _ hk => hk.2) (.int .i64 ((rd_T37 l0 x15_1).f0))) (fun _ hk => hk.2) (.int .i64 ((rd_T37 l0 x15_1).f1))) (fun _ hk => hk.2) (.int .i64 ((rd_T37 l0 x15_1).f2))) (fun _ hk => hk.2) (.int .i64 ((rd_T37 l0 x15_1).f3))) (fun _ hk => trivial))); (case aS => exact (below_size (by repeat (first | (with_reducible first | exact HB.out | apply bwA | apply bwN | apply bwD | refine below_set ?_ GE216.out) | exact HB.out)))); (case aL => have := LMc10.out; omega); intro v218 w13 ho hb hg hat; rw [← Ny217.out] at ho; have n0_ := Aside0.mk (blk_grown (g := gb216) (o := .cells #[.int .i64 ((rd_T37 l0 x15_1).f0), .int .i64 ((rd_T37 l0 x15_1).f1), .int .i64 ((rd_T37 l0 x15_1).f2), .int .i64 ((rd_T37 l0 x15_1).f3)] 37 (0, 0)) (by (with_reducible repeat (first | refine blk_drewN ?_ _ | refine blk_drew ?_ | refine blk_alloc ?_ _)); refine blk_put (cs := #[.int .i64 ((rd_T37 l0 x15_1).f0), .int .i64 ((rd_T37 l0 x15_1).f1), .int .i64 ((rd_T37 l0 x15_1).f2), .int .i64 0]) ?_ 3 _ rfl; (with_reducible repeat (first | refine blk_drewN ?_ _ | refine blk_drew ?_ | refine blk_alloc ?_ _)); refine blk_put (cs := #[.int .i64 ((rd_T37 l0 x15_1).f0), .int .i64 ((rd_T37 l0 x15_1).f1), .int .i64 0, .int .i64 0]) ?_ 2 _ rfl; (with_reducible repeat (first | refine blk_drewN ?_ _ | refine blk_drew ?_ | refine blk_alloc ?_ _)); refine blk_put (cs := #[.int .i64 ((rd_T37 l0 x15_1).f0), .int .i64 0, .int .i64 0, .int .i64 0]) ?_ 1 _ rfl; (with_reducible repeat (first | refine blk_drewN ?_ _ | refine blk_drew ?_ | refine blk_alloc ?_ _)); refine blk_put (cs := #[.int .i64 0, .int .i64 0, .int .i64 0, .int .i64 0]) ?_ 0 _ rfl; (with_reducible repeat (first | refine blk_drewN ?_ _ | refine blk_drew ?_ | refine blk_alloc ?_ _)); exact BK216.out) hg (Kd.R_ne HO_6.out BK216.out (by decide))); have n1_ := Aside0.mk (hb); have n2_ := Aside0.mk (ho); clear BK216; clear HB; clear HO_6; have BK216 := n0_; have HB := n1_; have HO219 := n2_; clear n0_ n1_ n2_; clear ho hb hg hat))
         go_roundg k1
         case measure => have := HK1.out; omega
         case rel => exact ⟨(y217), (wrap64 (x15_1 + 1)), rsd, H', ⟨by have := HK1.out; omega⟩, ⟨rvR HO219.out⟩, ⟨by repeat (first | (with_reducible first | exact HB.out | apply bwA | apply bwN | apply bwD | refine below_set ?_ GE216.out) | exact HB.out)⟩⟩
        ·rw [if_neg c10] at H
         exact absurd H (by simp)
       ·rw [if_neg c9] at H
        have c9b0 : decide (5 ≤ ((rd_T37 l0 x15_1).f0)) = false := decide_eq_false c9
        clear c9
        have H' := Aside0.mk H
        clear H
        have p215 : 0 ≤ (x15_1 : Int) := oda
        have q215 : x15_1 < (l0.length : Int) := oda
        obtain ⟨ad215, e215, hx215_0, hx215_1, hx215_2, hx215_3⟩ := at_T37 HR0.out x15_1 p215 q215
        cases e215
        try replace hx215_0 := bct HB.out hx215_0
        try replace hx215_1 := bct HB.out hx215_1
        try replace hx215_2 := bct HB.out hx215_2
        try replace hx215_3 := bct HB.out hx215_3
        replace p215 := eq_true p215
        replace q215 := eq_true q215
        go_wp2_with (first | ((with_reducible refine gate_dst (N := 8) rfl ?_); refine box_event ?hg (N := 8) ?hd (cs := #[.int .i64 0, .int .i64 0, .int .i64 0, .int .i64 0]) (t := 37) ?hr ?_; (case hd => rfl); (case hg => rfl); (case hr => first | (go_simp; done) | (go_simp; rfl)); intro gb216 hg w14 hbox hb; have n0_ := Aside0.mk (Kd.R_below (rvR HO_6.out) hb); have n1_ := Aside0.mk (below_step (by repeat (first | (with_reducible first | exact HB.out | apply bwA | apply bwN | apply bwD) | exact HB.out)) hb); have n2_ := Aside0.mk (hbox); have n3_ := Aside0.mk ((by rw [hg]; exact (below_size (by repeat (first | (with_reducible first | exact HB.out | apply bwA | apply bwN | apply bwD) | exact HB.out))) : w.heap.size ≤ gb216)); have n4_ := Aside0.mk ((by rw [hg]; exact (below_size (by repeat (first | (with_reducible first | exact HB.out | apply bwA | apply bwN | apply bwD) | exact HB.out))) : w.heap.size ≤ gb216)); clear HO_6; clear HB; have HO_6 := n0_; have HB := n1_; have BK216 := n2_; have GW216 := n3_; have GE216 := n4_; clear n0_ n1_ n2_ n3_ n4_; clear hb hbox hg; have hcz15_0 : w14.cell? ⟨gb216, 0, none⟩ = some (.int .i64 0) := (blk_cell BK216.out 0).trans rfl; have hcz15_1 : w14.cell? ⟨gb216, 1, none⟩ = some (.int .i64 0) := (blk_cell BK216.out 1).trans rfl; have hcz15_2 : w14.cell? ⟨gb216, 2, none⟩ = some (.int .i64 0) := (blk_cell BK216.out 2).trans rfl; have hcz15_3 : w14.cell? ⟨gb216, 3, none⟩ = some (.int .i64 0) := (blk_cell BK216.out 3).trans rfl; have hfz15_0 := blk_frozen BK216.out 0; have hfz15_1 := blk_frozen BK216.out 1; have hfz15_2 := blk_frozen BK216.out 2; have hfz15_3 := blk_frozen BK216.out 3))
        go_roundg k1
        case measure => have := HK1.out; omega
        case rel => exact ⟨(x6_1), (wrap64 (x15_1 + 1)), rsd, H', ⟨by have := HK1.out; omega⟩, ⟨by (with_reducible repeat (first | apply Kd.R_alloc | apply Kd.R_drewN | apply Kd.R_drew)); exact Kd.R_mono (Kd.R_far (p := ⟨gb216, 3, none⟩) (Kd.R_far (p := ⟨gb216, 2, none⟩) (Kd.R_far (p := ⟨gb216, 1, none⟩) (Kd.R_far (p := ⟨gb216, 0, none⟩) (Kd.R_types HO_6.out BK216.out (by decide)) (fun _ hk => hk.2) (.int .i64 ((rd_T37 l0 x15_1).f0))) (fun _ hk => hk.2) (.int .i64 ((rd_T37 l0 x15_1).f1))) (fun _ hk => hk.2) (.int .i64 ((rd_T37 l0 x15_1).f2))) (fun _ hk => hk.2) (.int .i64 ((rd_T37 l0 x15_1).f3))) (fun _ hk => trivial)⟩, ⟨by repeat (first | (with_reducible first | exact HB.out | apply bwA | apply bwN | apply bwD | refine below_set ?_ GE216.out) | exact HB.out)⟩⟩
      ·rw [if_neg c8] at H
       exact absurd H (by simp)
     ·rw [if_neg c7] at H
      exact absurd H (by simp)
    ·rw [if_neg c6] at H
     have c6b0 : decide (x15_1 < (l0.length : Int)) = false := decide_eq_false c6
     clear c6
     replace H := Option.bind_eq_some_iff.mp H
     obtain ⟨t220, A160, H⟩ := H
     replace H : (some (t220, decide ((wrap64 (a1 + (x6_1.length : Int))) ≤ 7))) = some (r1, r2) := H
     have A16 := Aside0.mk A160
     clear A160
     simp only [Option.some.injEq, Prod.mk.injEq] at H
     obtain ⟨rfl, rfl⟩ := H
     obtain ⟨Ao17, co17, eo17⟩ := Kd.R_slice HO_6.out
     subst eo17
     go_wp2_with (first | ((with_reducible refine gate_callee (f := 61) rfl ?_); refine goesL_ (some 29) rfl rfl Try.func61 (by kernel_rfl) rfl #[.slice Ao17 x6_1.length co17] rfl lmB ?_; (with_reducible refine (impl_clone_int.calls _ _ x6_1 t220 _ ?side1 ?side2 A16.out).mono ?_); (case side1 => repeat (first | exact (Kd.R_reads' HO_6.out).2.2 | (with_reducible refine Kd.C_alloc ?_ _) | (with_reducible refine Kd.C_drewN ?_ _) | (with_reducible refine Kd.C_drew ?_))); (case side2 => exact (Kd.R_reads' HO_6.out).2.1); rintro e w18 ⟨v221, rfl, ho0, hb⟩; refine ⟨_, rfl, ?_⟩; have n0_ := Aside0.mk (Kd.R_elder' (rvR HO_6.out) (Kd.R_base ho0) hb); have n1_ := Aside0.mk (Kd.R_lower (Kd.R_new' ho0 (Kd.R_lt (rvR HO_6.out))) (below_size (by repeat (first | (with_reducible first | exact HB.out | apply bwA | apply bwN | apply bwD) | exact HB.out)))); have n2_ := Aside0.mk (below_step (by repeat (first | (with_reducible first | exact HB.out | apply bwA | apply bwN | apply bwD) | exact HB.out)) hb); clear HO_6; clear HB; have HO_6 := n0_; have HO222 := n1_; have HB := n2_; clear n0_ n1_ n2_; (try clear hb); (try clear hb2); (try clear hk); (try clear hi); (try clear ho0)))
     go_ret2
     exact ⟨_, ers, by (with_reducible repeat (first | apply Kd.R_alloc | apply Kd.R_drewN | apply Kd.R_drew)); exact Kd.R_mono HO222.out (fun _ hk => trivial), by repeat (first | (with_reducible first | exact HB.out | apply bwA | apply bwN | apply bwD) | exact HB.out)⟩
 ·replace c4 := Bool.eq_false_iff.mpr c4
  subst c4
  have H1 : (some (([] : List Int), false)) = some (r1, r2) := by rw [if_neg (show ¬ (false = true) by decide)] at H; exact H
  clear H
  have H := H1
  clear H1
  simp only [Option.some.injEq, Prod.mk.injEq] at H
  obtain ⟨rfl, rfl⟩ := H
  go_enter Try.func57, Try.ntmps57
  go_wp2_with (first | ((with_reducible refine gate_callee (f := 41) rfl ?_); refine goesL_ (some 11) rfl rfl Try.func41 (by kernel_rfl) rfl #[.slice A0 l0.length c0, .int .i64 a1] rfl lmB ?_; (with_reducible refine (impl_TimesValid.calls k _ _ l0 a1 false _ ?side1 ?side2 A3.out).mono ?_); (case side1 => repeat (first | exact HR0.out | (with_reducible refine Kd.C_alloc ?_ _) | (with_reducible refine Kd.C_drewN ?_ _) | (with_reducible refine Kd.C_drew ?_))); (case side2 => exact HC0.out); rintro e w19 ⟨rfl, hb⟩; refine ⟨_, rfl, ?_⟩; have n0_ := Aside0.mk (below_step (by repeat (first | (with_reducible first | exact HB.out | apply bwA | apply bwN | apply bwD) | exact HB.out)) hb); clear HB; have HB := n0_; clear n0_; (try clear hb); (try clear hb2); (try clear hk); (try clear hi)))
  go_ret2
  exact ⟨_, ers, by first | exact Kd.R_nil _ _ _ _ _ | exact Kd.N_nil _ _ _ _ _ | exact Kd.V_nil _ _ _ _ _ | exact Kd.Q_nil _ _ _ _ _ | exact Kd.S_nil _ _ _ _ _, by repeat (first | (with_reducible first | exact HB.out | apply bwA | apply bwN | apply bwD) | exact HB.out)⟩

/-! ### impl_GuessCount: function 29 -/
def impl_GuessCount.f (k : Nat) (l0 : List (S37)) (a1 : Int) : Option (Int) := (impl_guessed.f k l0 a1).bind fun bt223 => (if bt223.2 = true then (if 0 ≤ (wrap64 (a1 + (bt223.1.length : Int))) then (some (shl .i64 1 (wrap64 (a1 + (bt223.1.length : Int))))) else (none)) else (some 0))
theorem impl_GuessCount.mono : ∀ a0 a1 k, LeO (impl_GuessCount.f k a0 a1) (impl_GuessCount.f (k + 1) a0 a1) := by
 intro a0 a1 k
 unfold impl_GuessCount.f
 repeat' first
   | (with_reducible exact impl_guessed.mono _ _ _)
   | (with_reducible exact LeO.refl _)
   | (with_reducible exact LeO.none _)
   | (with_reducible refine LeO.ite ?_ ?_)
   | (with_reducible refine LeO.bind ?_ (fun _ => ?_))
   | exact impl_guessed.mono _ _ _
   | exact LeO.none _
   | refine LeO.ite ?_ ?_
   | refine LeO.bind ?_ (fun _ => ?_)
set_option maxHeartbeats 8000000 in
set_option maxRecDepth 100000 in
theorem impl_GuessCount.calls (k : Nat) (A0 : Option Addr) (c0 : Nat) (l0 : List (S37)) (a1 : Int) (r : Int) (w : World) (hr0 : Kd.C k37 w A0 l0.length l0) (hc0 : l0.length ≤ c0) (h : impl_GuessCount.f k l0 a1 = some r) :
  Calls Try.prog 29 #[.slice A0 l0.length c0, .int .i64 a1] w fun e w' => e = .returned (.int .i64 r) ∧ Below w.heap.size w w' := by
 have HR0 := Aside0.mk hr0
 have HC0 := Aside0.mk hc0
 clear hr0 hc0
 have HB := Aside0.mk (Below.refl w.heap.size w)
 have H : ((impl_guessed.f k l0 a1).bind fun bt223 => (if bt223.2 = true then (if 0 ≤ (wrap64 (a1 + (bt223.1.length : Int))) then (some (shl .i64 1 (wrap64 (a1 + (bt223.1.length : Int))))) else (none)) else (some 0))) = some r := h
 clear h
 replace H := Option.bind_eq_some_iff.mp H
 obtain ⟨⟨t223, t224⟩, A30, H⟩ := H
 replace H : (if t224 = true then (if 0 ≤ (wrap64 (a1 + (t223.length : Int))) then (some (shl .i64 1 (wrap64 (a1 + (t223.length : Int))))) else (none)) else (some 0)) = some r := H
 have A3 := Aside0.mk A30
 clear A30
 by_cases c4 : t224 = true
 ·subst c4
  have H1 : (if 0 ≤ (wrap64 (a1 + (t223.length : Int))) then (some (shl .i64 1 (wrap64 (a1 + (t223.length : Int))))) else (none)) = some r := by rw [if_pos rfl] at H; exact H
  clear H
  have H := H1
  clear H1
  obtain ⟨ji5, hji5⟩ : ∃ j_ : Int, (wrap64 (a1 + (t223.length : Int))) = j_ := ⟨_, rfl⟩
  replace H : (if 0 ≤ (ji5) then (some (shl .i64 1 (ji5))) else (none)) = some r := by first | (rw [hji5] at H; exact H) | (simp only [hji5] at H ⊢; exact H)
  (try rw [hji5] at A3)
  have hji5w : (IntKind.i64.wrap (a1 + (t223.length : Int))) = ji5 := (i64_w _).trans hji5
  by_cases c6 : 0 ≤ (ji5)
  ·rw [if_pos c6] at H
   have c6b0 := eq_true c6
   have c6b1 : decide (0 ≤ (ji5)) = true := decide_eq_true c6
   clear c6
   obtain ⟨ji7, hji7⟩ : ∃ j_ : Int, (shl .i64 1 (ji5)) = j_ := ⟨_, rfl⟩
   replace H : (some ji7) = some r := by first | (rw [hji7] at H; exact H) | (simp only [hji7] at H ⊢; exact H)
   (try rw [hji7] at A3)
   have hji7_ : (IntKind.i64.wrap (1 * 2 ^ min (ji5).toNat 64)) = ji7 := hji7
   have hji7z : (ji5) ≤ 64 → (IntKind.i64.wrap (1 * 2 ^ (ji5).toNat)) = ji7 := shl_small hji7
   have hji7u : (IntKind.i64.wrap (2 ^ min (ji5).toNat 64)) = ji7 := by have h_ := hji7_; rw [Int.one_mul] at h_; exact h_
   have hji7v : (ji5) ≤ 64 → (IntKind.i64.wrap (2 ^ (ji5).toNat)) = ji7 := fun hle_ => by have h_ := hji7z hle_; rw [Int.one_mul] at h_; exact h_
   have hji7y : (wrap64 (1 * 2 ^ min (ji5).toNat 64)) = ji7 := (i64_w _).symm.trans hji7_
   have hji7x : (ji5) ≤ 64 → (wrap64 (1 * 2 ^ (ji5).toNat)) = ji7 := fun h_ => (i64_w _).symm.trans (hji7z h_)
   obtain rfl := Option.some.inj H
   go_enter Try.func29, Try.ntmps29
   go_wp2_with (first | ((with_reducible refine gate_callee (f := 57) rfl ?_); refine goesL_ (some 10) rfl rfl Try.func57 (by kernel_rfl) rfl #[.slice A0 l0.length c0, .int .i64 a1] rfl lmB ?_; (with_reducible refine (impl_guessed.calls k _ _ l0 a1 t223 true _ ?side1 ?side2 A3.out).mono ?_); (case side1 => repeat (first | exact HR0.out | (with_reducible refine Kd.C_alloc ?_ _) | (with_reducible refine Kd.C_drewN ?_ _) | (with_reducible refine Kd.C_drew ?_))); (case side2 => exact HC0.out); rintro e w8 ⟨v225, rfl, ho0, hb⟩; refine ⟨_, rfl, ?_⟩; have n0_ := Aside0.mk (Kd.R_lower ho0 (below_size (by repeat (first | (with_reducible first | exact HB.out | apply bwA | apply bwN | apply bwD) | exact HB.out)))); have n1_ := Aside0.mk (below_step (by repeat (first | (with_reducible first | exact HB.out | apply bwA | apply bwN | apply bwD) | exact HB.out)) hb); clear HB; have HO226 := n0_; have HB := n1_; clear n0_ n1_; (try clear hb); (try clear hb2); (try clear hk); (try clear hi); (try clear ho0); obtain ⟨Ao9, co9, eo9⟩ := Kd.R_slice HO226.out; subst eo9))
   go_ret
   exact ⟨by first | rfl | (simp [errW_none, errW_some] <;> rfl) | (simp only [← hji5, ← hji7]; first | rfl | (simp [errW_none, errW_some] <;> rfl)) | (simp [*, errW_none, errW_some] <;> rfl), by repeat (first | (with_reducible first | exact HB.out | apply bwA | apply bwN | apply bwD) | exact HB.out)⟩
  ·rw [if_neg c6] at H
   exact absurd H (by simp)
 ·replace c4 := Bool.eq_false_iff.mpr c4
  subst c4
  have H1 : (some 0) = some r := by rw [if_neg (show ¬ (false = true) by decide)] at H; exact H
  clear H
  have H := H1
  clear H1
  obtain rfl := Option.some.inj H
  go_enter Try.func29, Try.ntmps29
  go_wp2_with (first | ((with_reducible refine gate_callee (f := 57) rfl ?_); refine goesL_ (some 10) rfl rfl Try.func57 (by kernel_rfl) rfl #[.slice A0 l0.length c0, .int .i64 a1] rfl lmB ?_; (with_reducible refine (impl_guessed.calls k _ _ l0 a1 t223 false _ ?side1 ?side2 A3.out).mono ?_); (case side1 => repeat (first | exact HR0.out | (with_reducible refine Kd.C_alloc ?_ _) | (with_reducible refine Kd.C_drewN ?_ _) | (with_reducible refine Kd.C_drew ?_))); (case side2 => exact HC0.out); rintro e w10 ⟨v225, rfl, ho0, hb⟩; refine ⟨_, rfl, ?_⟩; have n0_ := Aside0.mk (Kd.R_lower ho0 (below_size (by repeat (first | (with_reducible first | exact HB.out | apply bwA | apply bwN | apply bwD) | exact HB.out)))); have n1_ := Aside0.mk (below_step (by repeat (first | (with_reducible first | exact HB.out | apply bwA | apply bwN | apply bwD) | exact HB.out)) hb); clear HB; have HO226 := n0_; have HB := n1_; clear n0_ n1_; (try clear hb); (try clear hb2); (try clear hk); (try clear hi); (try clear ho0)))
  go_ret
  exact ⟨ers, by repeat (first | (with_reducible first | exact HB.out | apply bwA | apply bwN | apply bwD) | exact HB.out)⟩

end Go.Proofs.Ytdigdhckbhlkmaa.QFnGuessNext
