-- Written by a program of this session (mk.py). Lean checks it.
import Derived.Test.YtpcckoljocpchaaQFnFixedx0
namespace Go.Proofs.Ytpcckoljocpchaa.QFnFixed
open Go.RowKit Go.Proofs.YtpcckoljocpchaaW.PrintWords Go.Proofs.YtpcckoljocpchaaW.PrintLast Go.Proofs.YtpcckoljocpchaaW.PrintMore
attribute [local go_sem] max2_int min2_int max_two min_two max_three min_three max_four min_four   -- for this text's walks alone
set_option linter.unusedVariables false
set_option linter.unusedSimpArgs false

/-! ### impl_in: function 73 -/
def impl_in.f (a0 : Int) (a1 : Int) (a2 : Int) : Option (Bool) := if a0 ≥ a1 then (some (decide (a0 ≤ a2))) else (some false)
set_option maxHeartbeats 8000000 in
set_option maxRecDepth 100000 in
theorem impl_in.calls (a0 : Int) (a1 : Int) (a2 : Int) (r : Bool) (w : World) (h : impl_in.f a0 a1 a2 = some r) :
  Calls Try.prog 73 #[.int .i64 a0, .int .i64 a1, .int .i64 a2] w fun e w' => e = .returned (.bool r) ∧ Drawn0 w w' := by
 have H : (if a0 ≥ a1 then (some (decide (a0 ≤ a2))) else (some false)) = some r := h
 clear h
 by_cases c4 : a0 ≥ a1
 ·rw [if_pos c4] at H
  have c4b0 : decide (a1 ≤ a0) = true := decide_eq_true c4
  clear c4
  obtain rfl := Option.some.inj H
  go_enter Try.func73, Try.ntmps73
  go_wp2
  go_ret
  exact ⟨by first | rfl | (simp; done) | (simp [*]; done), by repeat (first | exact Drawn0.refl _ | apply Drawn0.step)⟩
 ·rw [if_neg c4] at H
  have c4b0 : decide (a1 ≤ a0) = false := decide_eq_false c4
  clear c4
  obtain rfl := Option.some.inj H
  go_enter Try.func73, Try.ntmps73
  go_wp2
  go_ret
  exact ⟨by first | rfl | (simp; done) | (simp [*]; done), by repeat (first | exact Drawn0.refl _ | apply Drawn0.step)⟩

/-! ### impl_CircuitValid: function 23 -/
mutual
def impl_CircuitValid.j0 : Nat → Bool → Int → List (S92) → Option (Bool)
 | 0, _, _, _ => none
 | k + 1, x15, x102000, x102001 => if x15 = true then (some false) else (impl_CircuitValid.l0 k x102001 (x102001.length : Int) 0 x102000 x102001)
def impl_CircuitValid.l0 : Nat → List (S92) → Int → Int → Int → List (S92) → Option (Bool)
 | 0, _, _, _, _, _ => none
 | k + 1, x17, x18, x19, x102000, x102001 => if x19 < x18 then (if 0 ≤ x19 then (if x19 < (x17.length : Int) then ((impl_in.f ((rd_T92 x17 x19).f0) 0 (wrap64 ((wrap64 (2 * (wrap64 ((wrap64 (1 + x102000)) + x19)))) - 1))).bind fun t105 => (if t105 = true then ((impl_in.f ((rd_T92 x17 x19).f1) 0 (wrap64 ((wrap64 (2 * (wrap64 ((wrap64 (1 + x102000)) + x19)))) - 1))).bind fun t106 => (if t106 = true then (impl_CircuitValid.l0 k x17 x18 (wrap64 (x19 + 1)) x102000 x102001) else (some false))) else (some false))) else (none)) else (none)) else (some true)
end
def impl_CircuitValid.f (k : Nat) (a0_0 : Int) (l0_1 : List (S92)) : Option (Bool) := (impl_in.f a0_0 0 12).bind fun t102 => (if t102 = true then (impl_CircuitValid.j0 k (decide ((l0_1.length : Int) > 600)) a0_0 l0_1) else (impl_CircuitValid.j0 k true a0_0 l0_1))
theorem impl_CircuitValid.mono_l : ∀ k, (∀ y0 y1 y2, LeO (impl_CircuitValid.j0 k y0 y1 y2) (impl_CircuitValid.j0 (k + 1) y0 y1 y2)) ∧ (∀ y0 y1 y2 y3 y4, LeO (impl_CircuitValid.l0 k y0 y1 y2 y3 y4) (impl_CircuitValid.l0 (k + 1) y0 y1 y2 y3 y4))
 | 0 => ⟨fun _ _ _ r h => by simp [impl_CircuitValid.j0] at h, fun _ _ _ _ _ r h => by simp [impl_CircuitValid.l0] at h⟩
 | k + 1 => by
  obtain ⟨ih0, ih1⟩ := impl_CircuitValid.mono_l k
  refine ⟨?_, ?_⟩
  ·intro y0 y1 y2
   unfold impl_CircuitValid.j0
   repeat' first
   | (with_reducible exact ih0 _ _ _)
   | (with_reducible exact ih1 _ _ _ _ _)
   | (with_reducible exact LeO.refl _)
   | (with_reducible exact LeO.none _)
   | (with_reducible refine LeO.ite ?_ ?_)
   | (with_reducible refine LeO.bind ?_ (fun _ => ?_))
   | exact ih0 _ _ _
   | exact ih1 _ _ _ _ _
   | exact LeO.none _
   | refine LeO.ite ?_ ?_
   | refine LeO.bind ?_ (fun _ => ?_)
  ·intro y0 y1 y2 y3 y4
   unfold impl_CircuitValid.l0
   repeat' first
   | (with_reducible exact ih0 _ _ _)
   | (with_reducible exact ih1 _ _ _ _ _)
   | (with_reducible exact LeO.refl _)
   | (with_reducible exact LeO.none _)
   | (with_reducible refine LeO.ite ?_ ?_)
   | (with_reducible refine LeO.bind ?_ (fun _ => ?_))
   | exact ih0 _ _ _
   | exact ih1 _ _ _ _ _
   | exact LeO.none _
   | refine LeO.ite ?_ ?_
   | refine LeO.bind ?_ (fun _ => ?_)
theorem impl_CircuitValid.mono : ∀ a0 a1 k, LeO (impl_CircuitValid.f k a0 a1) (impl_CircuitValid.f (k + 1) a0 a1) := by
 intro a0 a1 k
 obtain ⟨ih0, ih1⟩ := impl_CircuitValid.mono_l k
 unfold impl_CircuitValid.f
 repeat' first
   | (with_reducible exact ih0 _ _ _)
   | (with_reducible exact ih1 _ _ _ _ _)
   | (with_reducible exact LeO.refl _)
   | (with_reducible exact LeO.none _)
   | (with_reducible refine LeO.ite ?_ ?_)
   | (with_reducible refine LeO.bind ?_ (fun _ => ?_))
   | exact ih0 _ _ _
   | exact ih1 _ _ _ _ _
   | exact LeO.none _
   | refine LeO.ite ?_ ?_
   | refine LeO.bind ?_ (fun _ => ?_)
set_option maxHeartbeats 8000000 in
set_option maxRecDepth 100000 in
theorem impl_CircuitValid.calls (k : Nat) (a0_0 : Int) (A0_1 : Option Addr) (c0_1 : Nat) (l0_1 : List (S92)) (r : Bool) (w : World) (hr0_1 : Kd.C k92 w A0_1 l0_1.length l0_1) (hc0_1 : l0_1.length ≤ c0_1) (h : impl_CircuitValid.f k a0_0 l0_1 = some r) :
  Calls Try.prog 23 #[.agg #[.int .i64 a0_0, .slice A0_1 l0_1.length c0_1]] w fun e w' => e = .returned (.bool r) ∧ Below w.heap.size w w' := by
 have hu28 := Try.underlying28
 have hu92 := Try.underlying92
 have HR0_1 := Aside0.mk hr0_1
 have HC0_1 := Aside0.mk hc0_1
 clear hr0_1 hc0_1
 have HB := Aside0.mk (Below.refl w.heap.size w)
 have H : ((impl_in.f a0_0 0 12).bind fun t102 => (if t102 = true then (impl_CircuitValid.j0 k (decide ((l0_1.length : Int) > 600)) a0_0 l0_1) else (impl_CircuitValid.j0 k true a0_0 l0_1))) = some r := h
 clear h
 have HC2 := Aside0.mk H
 clear H
 go_enter Try.func23, Try.ntmps23
 go_upto_region 1 with (first | ((with_reducible refine gate_dst (N := 1) rfl ?_); (try (refine gate_guard (by rfl) ?_; dsimp only)); refine box_event ?hg (N := 1) ?hd (cs := #[.int .i64 a0_0, .slice A0_1 l0_1.length c0_1]) (t := 28) ?hr ?_; (case hd => rfl); (case hg => rfl); (case hr => first | (go_simp; done) | (go_simp; rfl)); intro gb101 hg w3 hbox hb; have n0_ := Aside0.mk (below_step hbB hb); have n1_ := Aside0.mk (hbox); have n2_ := Aside0.mk ((gwb hg (below_size hbB) : w.heap.size ≤ gb101)); have n3_ := n2_; clear HB; have HB := n0_; have BK101 := n1_; have GW101 := n2_; have GE101 := n3_; clear n0_ n1_ n2_ n3_; clear hb hbox hg))
 (try simp only [Act.put, List.setIfInBounds_toArray, List.set_cons_zero, List.set_cons_succ])
 go_cut [15] (fun v15 wc => ∃ (kq : Nat) (x15_1 : Bool), v15 = .bool x15_1 ∧ Aside0 (impl_CircuitValid.j0 kq x15_1 a0_0 l0_1 = some r) ∧ Aside0 (kq ≤ k) ∧ Aside0 (wc.heap[gb101]? = some (.cells #[.int .i64 a0_0, (.slice A0_1 l0_1.length c0_1)] 28 (0, 0))) ∧ Aside0 (Below w.heap.size w wc))
 case first =>
  have H := HC2.out
  clear HC2
  replace H := Option.bind_eq_some_iff.mp H
  obtain ⟨t102, A40, H⟩ := H
  replace H : (if t102 = true then (impl_CircuitValid.j0 k (decide ((l0_1.length : Int) > 600)) a0_0 l0_1) else (impl_CircuitValid.j0 k true a0_0 l0_1)) = some r := H
  have A4 := Aside0.mk A40
  clear A40
  by_cases c5 : t102 = true
  ·subst c5
   have H1 : (impl_CircuitValid.j0 k (decide ((l0_1.length : Int) > 600)) a0_0 l0_1) = some r := by rw [if_pos rfl] at H; exact H
   clear H
   have H := H1
   clear H1
   have H' := Aside0.mk H
   clear H
   have hcz6_0 : w3.cell? ⟨gb101, 0, none⟩ = some (.int .i64 a0_0) := (blk_cell BK101.out 0).trans rfl
   have hcz6_1 : w3.cell? ⟨gb101, 1, none⟩ = some (.slice A0_1 l0_1.length c0_1) := (blk_cell BK101.out 1).trans rfl
   have hfz6_0 := blk_frozen BK101.out 0
   have hfz6_1 := blk_frozen BK101.out 1
   go_wp2_with (first | ((with_reducible refine gate_callee (f := 73) rfl ?_); refine goesL_ (some 8) rfl rfl Try.func73 (by kernel_rfl) rfl #[.int .i64 a0_0, .int .i64 0, .int .i64 12] rfl lmB ?_; (with_reducible refine (impl_in.calls a0_0 0 12 true _ A4.out).mono ?_); rintro e w' ⟨rfl, ⟨nd, rfl⟩⟩; refine ⟨_, rfl, ?_⟩))
   go_meet
   case rel => exact ⟨_, (decide ((l0_1.length : Int) > 600)), rsd, H', ⟨by first | omega | exact Nat.le_refl _⟩, ⟨bvK BK101.out⟩, ⟨hbC⟩⟩
  ·replace c5 := Bool.eq_false_iff.mpr c5
   subst c5
   have H1 : (impl_CircuitValid.j0 k true a0_0 l0_1) = some r := by rw [if_neg (show ¬ (false = true) by decide)] at H; exact H
   clear H
   have H := H1
   clear H1
   have H' := Aside0.mk H
   clear H
   have hcz7_0 : w3.cell? ⟨gb101, 0, none⟩ = some (.int .i64 a0_0) := (blk_cell BK101.out 0).trans rfl
   have hcz7_1 : w3.cell? ⟨gb101, 1, none⟩ = some (.slice A0_1 l0_1.length c0_1) := (blk_cell BK101.out 1).trans rfl
   have hfz7_0 := blk_frozen BK101.out 0
   have hfz7_1 := blk_frozen BK101.out 1
   go_wp2_with (first | ((with_reducible refine gate_callee (f := 73) rfl ?_); refine goesL_ (some 8) rfl rfl Try.func73 (by kernel_rfl) rfl #[.int .i64 a0_0, .int .i64 0, .int .i64 12] rfl lmB ?_; (with_reducible refine (impl_in.calls a0_0 0 12 false _ A4.out).mono ?_); rintro e w' ⟨rfl, ⟨nd, rfl⟩⟩; refine ⟨_, rfl, ?_⟩))
   go_meet
   case rel => exact ⟨_, (true), rsd, H', ⟨by first | omega | exact Nat.le_refl _⟩, ⟨bvK BK101.out⟩, ⟨hbC⟩⟩
 case rest =>
  clear HC2
  try clear c2
  try clear p2
  try clear c5
  try clear c7
  try clear hcz6_0
  try clear hcz6_1
  try clear hcz7_0
  try clear hcz7_1
  try clear hfz6_0
  try clear hfz6_1
  try clear hfz7_0
  try clear hfz7_1
  obtain ⟨kq, x15_1, rfl, HA, HJ1, BK101, HB⟩ := hcut
  cases kq with
  | zero => exact absurd HA.out (by simp [impl_CircuitValid.j0])
  | succ kj1 =>
   have H := HA.out
   clear HA
   simp only [impl_CircuitValid.j0] at H
   by_cases c8 : x15_1 = true
   ·subst c8
    have H1 : (some false) = some r := by rw [if_pos rfl] at H; exact H
    clear H
    have H := H1
    clear H1
    obtain rfl := Option.some.inj H
    go_wp2
    go_ret
    exact ⟨ers, hbC⟩
   ·replace c8 := Bool.eq_false_iff.mpr c8
    subst c8
    have H1 : (impl_CircuitValid.l0 kj1 l0_1 (l0_1.length : Int) 0 a0_0 l0_1) = some r := by rw [if_neg (show ¬ (false = true) by decide)] at H; exact H
    clear H
    have H := H1
    clear H1
    have H' := Aside0.mk H
    clear H
    have hcz9_0 : wc.cell? ⟨gb101, 0, none⟩ = some (.int .i64 a0_0) := (blk_cell BK101.out 0).trans rfl
    have hcz9_1 : wc.cell? ⟨gb101, 1, none⟩ = some (.slice A0_1 l0_1.length c0_1) := (blk_cell BK101.out 1).trans rfl
    have hfz9_0 := blk_frozen BK101.out 0
    have hfz9_1 := blk_frozen BK101.out 1
    go_wp2
    go_loopg [19] kj1 (fun kq v19 w' => ∃ (x19_2 : Int), v19 = .int .i64 x19_2 ∧ Aside0 (impl_CircuitValid.l0 kq l0_1 (l0_1.length : Int) x19_2 a0_0 l0_1 = some r) ∧ Aside0 (kq ≤ kj1) ∧ Aside0 (w'.heap[gb101]? = some (.cells #[.int .i64 a0_0, (.slice A0_1 l0_1.length c0_1)] 28 (0, 0))) ∧ Aside0 (Below w.heap.size w w'))
    case atStart => exact ⟨(0), rsd, H', ⟨Nat.le_refl _⟩, ⟨bvK BK101.out⟩, ⟨hbC⟩⟩
    case round =>
     clear H'
     try clear c2
     try clear p2
     try clear c5
     try clear c7
     try clear c8
     try clear hcz6_0
     try clear hcz6_1
     try clear hcz7_0
     try clear hcz7_1
     try clear hcz9_0
     try clear hcz9_1
     try clear hfz6_0
     try clear hfz6_1
     try clear hfz7_0
     try clear hfz7_1
     try clear hfz9_0
     try clear hfz9_1
     try clear p2
     obtain ⟨x19_2, rfl, HA, HK2, BK101, HB⟩ := hrel
     cases gk with
     | zero => exact absurd HA.out (by simp [impl_CircuitValid.l0])
     | succ k2 =>
      have H := HA.out
      clear HA
      simp only [impl_CircuitValid.l0] at H
      by_cases c10 : x19_2 < (l0_1.length : Int)
      ·rw [if_pos c10] at H
       have c10b0 : decide (x19_2 < (l0_1.length : Int)) = true := decide_eq_true c10
       clear c10
       by_cases c11 : 0 ≤ x19_2
       ·rw [if_pos c11] at H
        have c11b0 : decide (0 ≤ x19_2) = true := decide_eq_true c11
        clear c11
        by_cases c12 : x19_2 < (l0_1.length : Int)
        ·rw [if_pos c12] at H
         have c12b0 : decide (x19_2 < (l0_1.length : Int)) = true := decide_eq_true c12
         clear c12
         replace H := Option.bind_eq_some_iff.mp H
         obtain ⟨t105, A130, H⟩ := H
         replace H : (if t105 = true then ((impl_in.f ((rd_T92 l0_1 x19_2).f1) 0 (wrap64 ((wrap64 (2 * (wrap64 ((wrap64 (1 + a0_0)) + x19_2)))) - 1))).bind fun t106 => (if t106 = true then (impl_CircuitValid.l0 k2 l0_1 (l0_1.length : Int) (wrap64 (x19_2 + 1)) a0_0 l0_1) else (some false))) else (some false)) = some r := H
         have A13 := Aside0.mk A130
         clear A130
         by_cases c14 : t105 = true
         ·subst c14
          have H1 : ((impl_in.f ((rd_T92 l0_1 x19_2).f1) 0 (wrap64 ((wrap64 (2 * (wrap64 ((wrap64 (1 + a0_0)) + x19_2)))) - 1))).bind fun t106 => (if t106 = true then (impl_CircuitValid.l0 k2 l0_1 (l0_1.length : Int) (wrap64 (x19_2 + 1)) a0_0 l0_1) else (some false))) = some r := by rw [if_pos rfl] at H; exact H
          clear H
          have H := H1
          clear H1
          replace H := Option.bind_eq_some_iff.mp H
          obtain ⟨t106, A150, H⟩ := H
          replace H : (if t106 = true then (impl_CircuitValid.l0 k2 l0_1 (l0_1.length : Int) (wrap64 (x19_2 + 1)) a0_0 l0_1) else (some false)) = some r := H
          have A15 := Aside0.mk A150
          clear A150
          by_cases c16 : t106 = true
          ·subst c16
           have H1 : (impl_CircuitValid.l0 k2 l0_1 (l0_1.length : Int) (wrap64 (x19_2 + 1)) a0_0 l0_1) = some r := by rw [if_pos rfl] at H; exact H
           clear H
           have H := H1
           clear H1
           have H' := Aside0.mk H
           clear H
           have p103 : 0 ≤ (x19_2 : Int) := oda
           have q103 : x19_2 < (l0_1.length : Int) := oda
           obtain ⟨ad103, e103, hx103_0, hx103_1⟩ := at_T92 HR0_1.out x19_2 p103 q103
           cases e103
           try replace hx103_0 := bct HB.out hx103_0
           try replace hx103_1 := bct HB.out hx103_1
           replace p103 := eq_true p103
           replace q103 := eq_true q103
           go_wp2_with (first | ((with_reducible refine gate_dst (N := 4) rfl ?_); (try (refine gate_guard (by rfl) ?_; dsimp only)); refine box_event ?hg (N := 4) ?hd (cs := #[.int .i64 0, .int .i64 0]) (t := 92) ?hr ?_; (case hd => rfl); (case hg => rfl); (case hr => first | (go_simp; done) | (go_simp; rfl)); intro gb104 hg w17 hbox hb; have n0_ := Aside0.mk (blk_below (g := gb101) (o := .cells #[.int .i64 a0_0, .slice (some ad103) l0_1.length c0_1] 28 (0, 0)) (bvK BK101.out) hb); have n1_ := Aside0.mk (below_step hbC hb); have n2_ := Aside0.mk (hbox); have n3_ := Aside0.mk ((gwb hg (below_size hbC) : w.heap.size ≤ gb104)); have n4_ := n3_; have n5_ := Aside0.mk ((by rw [hg]; exact Nat.ne_of_lt (blk_lt (g := gb101) (o := .cells #[.int .i64 a0_0, .slice (some ad103) l0_1.length c0_1] 28 (0, 0)) (bvK BK101.out)) : gb101 ≠ gb104)); have n6_ := Aside0.mk ((by rw [hg]; exact Nat.ne_of_gt (blk_lt (g := gb101) (o := .cells #[.int .i64 a0_0, .slice (some ad103) l0_1.length c0_1] 28 (0, 0)) (bvK BK101.out)) : gb104 ≠ gb101)); clear BK101; clear HB; have BK101 := n0_; have HB := n1_; have BK104 := n2_; have GW104 := n3_; have GE104 := n4_; have NB101_104 := n5_; have NB104_101 := n6_; clear n0_ n1_ n2_ n3_ n4_ n5_ n6_; clear hb hbox hg; have hnb18 := NB104_101.out; have hnc18 := NB101_104.out; have hcz19_0 : w17.cell? ⟨gb104, 0, none⟩ = some (.int .i64 0) := (blk_cell BK104.out 0).trans rfl; have hcz19_1 : w17.cell? ⟨gb104, 1, none⟩ = some (.int .i64 0) := (blk_cell BK104.out 1).trans rfl; have hfz19_0 := blk_frozen BK104.out 0; have hfz19_1 := blk_frozen BK104.out 1; have hcz20_0 : w17.cell? ⟨gb101, 0, none⟩ = some (.int .i64 a0_0) := (blk_cell BK101.out 0).trans rfl; have hcz20_1 : w17.cell? ⟨gb101, 1, none⟩ = some (.slice (some ad103) l0_1.length c0_1) := (blk_cell BK101.out 1).trans rfl; have hfz20_0 := blk_frozen BK101.out 0; have hfz20_1 := blk_frozen BK101.out 1) | ((with_reducible refine gate_callee (f := 73) rfl ?_); refine goesL_ (some 34) rfl rfl Try.func73 (by kernel_rfl) rfl #[.int .i64 ((rd_T92 l0_1 x19_2).f0), .int .i64 0, .int .i64 (wrap64 ((wrap64 (2 * (wrap64 ((wrap64 (1 + a0_0)) + x19_2)))) - 1))] rfl lmB ?_; (with_reducible refine (impl_in.calls ((rd_T92 l0_1 x19_2).f0) 0 (wrap64 ((wrap64 (2 * (wrap64 ((wrap64 (1 + a0_0)) + x19_2)))) - 1)) true _ A13.out).mono ?_); rintro e w' ⟨rfl, ⟨nd, rfl⟩⟩; refine ⟨_, rfl, ?_⟩) | (go_at_call 73; (with_reducible refine (impl_in.calls ((rd_T92 l0_1 x19_2).f1) 0 (wrap64 ((wrap64 (2 * (wrap64 ((wrap64 (1 + a0_0)) + x19_2)))) - 1)) true _ A15.out).mono ?_); rintro e w' ⟨rfl, ⟨nd, rfl⟩⟩))
           go_roundg k2
           case measure => have := HJ1.out; have := HK2.out; omega
           case rel => exact ⟨(wrap64 (x19_2 + 1)), rsd, H', ⟨by have := HJ1.out; have := HK2.out; omega⟩, ⟨by (with_reducible repeat (first | refine blk_drewN ?_ _ | refine blk_drew ?_ | refine blk_alloc ?_ _)); refine blk_far ?_ NB101_104.out _; (with_reducible repeat (first | refine blk_drewN ?_ _ | refine blk_drew ?_ | refine blk_alloc ?_ _)); refine blk_far ?_ NB101_104.out _; (with_reducible repeat (first | refine blk_drewN ?_ _ | refine blk_drew ?_ | refine blk_alloc ?_ _)); exact BK101.out⟩, ⟨hbC⟩⟩
          ·replace c16 := Bool.eq_false_iff.mpr c16
           subst c16
           have H1 : (some false) = some r := by rw [if_neg (show ¬ (false = true) by decide)] at H; exact H
           clear H
           have H := H1
           clear H1
           obtain rfl := Option.some.inj H
           have p103 : 0 ≤ (x19_2 : Int) := oda
           have q103 : x19_2 < (l0_1.length : Int) := oda
           obtain ⟨ad103, e103, hx103_0, hx103_1⟩ := at_T92 HR0_1.out x19_2 p103 q103
           cases e103
           try replace hx103_0 := bct HB.out hx103_0
           try replace hx103_1 := bct HB.out hx103_1
           replace p103 := eq_true p103
           replace q103 := eq_true q103
           go_wp2_with (first | ((with_reducible refine gate_dst (N := 4) rfl ?_); (try (refine gate_guard (by rfl) ?_; dsimp only)); refine box_event ?hg (N := 4) ?hd (cs := #[.int .i64 0, .int .i64 0]) (t := 92) ?hr ?_; (case hd => rfl); (case hg => rfl); (case hr => first | (go_simp; done) | (go_simp; rfl)); intro gb104 hg w21 hbox hb; have n0_ := Aside0.mk (blk_below (g := gb101) (o := .cells #[.int .i64 a0_0, .slice (some ad103) l0_1.length c0_1] 28 (0, 0)) (bvK BK101.out) hb); have n1_ := Aside0.mk (below_step hbC hb); have n2_ := Aside0.mk (hbox); have n3_ := Aside0.mk ((gwb hg (below_size hbC) : w.heap.size ≤ gb104)); have n4_ := n3_; have n5_ := Aside0.mk ((by rw [hg]; exact Nat.ne_of_lt (blk_lt (g := gb101) (o := .cells #[.int .i64 a0_0, .slice (some ad103) l0_1.length c0_1] 28 (0, 0)) (bvK BK101.out)) : gb101 ≠ gb104)); have n6_ := Aside0.mk ((by rw [hg]; exact Nat.ne_of_gt (blk_lt (g := gb101) (o := .cells #[.int .i64 a0_0, .slice (some ad103) l0_1.length c0_1] 28 (0, 0)) (bvK BK101.out)) : gb104 ≠ gb101)); clear BK101; clear HB; have BK101 := n0_; have HB := n1_; have BK104 := n2_; have GW104 := n3_; have GE104 := n4_; have NB101_104 := n5_; have NB104_101 := n6_; clear n0_ n1_ n2_ n3_ n4_ n5_ n6_; clear hb hbox hg; have hnb22 := NB104_101.out; have hnc22 := NB101_104.out; have hcz23_0 : w21.cell? ⟨gb104, 0, none⟩ = some (.int .i64 0) := (blk_cell BK104.out 0).trans rfl; have hcz23_1 : w21.cell? ⟨gb104, 1, none⟩ = some (.int .i64 0) := (blk_cell BK104.out 1).trans rfl; have hfz23_0 := blk_frozen BK104.out 0; have hfz23_1 := blk_frozen BK104.out 1; have hcz24_0 : w21.cell? ⟨gb101, 0, none⟩ = some (.int .i64 a0_0) := (blk_cell BK101.out 0).trans rfl; have hcz24_1 : w21.cell? ⟨gb101, 1, none⟩ = some (.slice (some ad103) l0_1.length c0_1) := (blk_cell BK101.out 1).trans rfl; have hfz24_0 := blk_frozen BK101.out 0; have hfz24_1 := blk_frozen BK101.out 1) | ((with_reducible refine gate_callee (f := 73) rfl ?_); refine goesL_ (some 34) rfl rfl Try.func73 (by kernel_rfl) rfl #[.int .i64 ((rd_T92 l0_1 x19_2).f0), .int .i64 0, .int .i64 (wrap64 ((wrap64 (2 * (wrap64 ((wrap64 (1 + a0_0)) + x19_2)))) - 1))] rfl lmB ?_; (with_reducible refine (impl_in.calls ((rd_T92 l0_1 x19_2).f0) 0 (wrap64 ((wrap64 (2 * (wrap64 ((wrap64 (1 + a0_0)) + x19_2)))) - 1)) true _ A13.out).mono ?_); rintro e w' ⟨rfl, ⟨nd, rfl⟩⟩; refine ⟨_, rfl, ?_⟩) | (go_at_call 73; (with_reducible refine (impl_in.calls ((rd_T92 l0_1 x19_2).f1) 0 (wrap64 ((wrap64 (2 * (wrap64 ((wrap64 (1 + a0_0)) + x19_2)))) - 1)) false _ A15.out).mono ?_); rintro e w' ⟨rfl, ⟨nd, rfl⟩⟩))
           go_ret
           exact ⟨ers, hbC⟩
         ·replace c14 := Bool.eq_false_iff.mpr c14
          subst c14
          have H1 : (some false) = some r := by rw [if_neg (show ¬ (false = true) by decide)] at H; exact H
          clear H
          have H := H1
          clear H1
          obtain rfl := Option.some.inj H
          have p103 : 0 ≤ (x19_2 : Int) := oda
          have q103 : x19_2 < (l0_1.length : Int) := oda
          obtain ⟨ad103, e103, hx103_0, hx103_1⟩ := at_T92 HR0_1.out x19_2 p103 q103
          cases e103
          try replace hx103_0 := bct HB.out hx103_0
          try replace hx103_1 := bct HB.out hx103_1
          replace p103 := eq_true p103
          replace q103 := eq_true q103
          go_wp2_with (first | ((with_reducible refine gate_dst (N := 4) rfl ?_); (try (refine gate_guard (by rfl) ?_; dsimp only)); refine box_event ?hg (N := 4) ?hd (cs := #[.int .i64 0, .int .i64 0]) (t := 92) ?hr ?_; (case hd => rfl); (case hg => rfl); (case hr => first | (go_simp; done) | (go_simp; rfl)); intro gb104 hg w25 hbox hb; have n0_ := Aside0.mk (blk_below (g := gb101) (o := .cells #[.int .i64 a0_0, .slice (some ad103) l0_1.length c0_1] 28 (0, 0)) (bvK BK101.out) hb); have n1_ := Aside0.mk (below_step hbC hb); have n2_ := Aside0.mk (hbox); have n3_ := Aside0.mk ((gwb hg (below_size hbC) : w.heap.size ≤ gb104)); have n4_ := n3_; have n5_ := Aside0.mk ((by rw [hg]; exact Nat.ne_of_lt (blk_lt (g := gb101) (o := .cells #[.int .i64 a0_0, .slice (some ad103) l0_1.length c0_1] 28 (0, 0)) (bvK BK101.out)) : gb101 ≠ gb104)); have n6_ := Aside0.mk ((by rw [hg]; exact Nat.ne_of_gt (blk_lt (g := gb101) (o := .cells #[.int .i64 a0_0, .slice (some ad103) l0_1.length c0_1] 28 (0, 0)) (bvK BK101.out)) : gb104 ≠ gb101)); clear BK101; clear HB; have BK101 := n0_; have HB := n1_; have BK104 := n2_; have GW104 := n3_; have GE104 := n4_; have NB101_104 := n5_; have NB104_101 := n6_; clear n0_ n1_ n2_ n3_ n4_ n5_ n6_; clear hb hbox hg; have hnb26 := NB104_101.out; have hnc26 := NB101_104.out; have hcz27_0 : w25.cell? ⟨gb104, 0, none⟩ = some (.int .i64 0) := (blk_cell BK104.out 0).trans rfl; have hcz27_1 : w25.cell? ⟨gb104, 1, none⟩ = some (.int .i64 0) := (blk_cell BK104.out 1).trans rfl; have hfz27_0 := blk_frozen BK104.out 0; have hfz27_1 := blk_frozen BK104.out 1; have hcz28_0 : w25.cell? ⟨gb101, 0, none⟩ = some (.int .i64 a0_0) := (blk_cell BK101.out 0).trans rfl; have hcz28_1 : w25.cell? ⟨gb101, 1, none⟩ = some (.slice (some ad103) l0_1.length c0_1) := (blk_cell BK101.out 1).trans rfl; have hfz28_0 := blk_frozen BK101.out 0; have hfz28_1 := blk_frozen BK101.out 1) | ((with_reducible refine gate_callee (f := 73) rfl ?_); refine goesL_ (some 34) rfl rfl Try.func73 (by kernel_rfl) rfl #[.int .i64 ((rd_T92 l0_1 x19_2).f0), .int .i64 0, .int .i64 (wrap64 ((wrap64 (2 * (wrap64 ((wrap64 (1 + a0_0)) + x19_2)))) - 1))] rfl lmB ?_; (with_reducible refine (impl_in.calls ((rd_T92 l0_1 x19_2).f0) 0 (wrap64 ((wrap64 (2 * (wrap64 ((wrap64 (1 + a0_0)) + x19_2)))) - 1)) false _ A13.out).mono ?_); rintro e w' ⟨rfl, ⟨nd, rfl⟩⟩; refine ⟨_, rfl, ?_⟩))
          go_ret
          exact ⟨ers, hbC⟩
        ·rw [if_neg c12] at H
         exact absurd H (by simp)
       ·rw [if_neg c11] at H
        exact absurd H (by simp)
      ·rw [if_neg c10] at H
       have c10b0 : decide (x19_2 < (l0_1.length : Int)) = false := decide_eq_false c10
       clear c10
       obtain rfl := Option.some.inj H
       go_wp2
       go_ret
       exact ⟨ers, hbC⟩

/-! ### impl_Circuit_isEdge: function 59 -/
def impl_Circuit_isEdge.f (a0_0 : Int) (l0_1 : List (S92)) (a1 : Int) : Option (Bool) := (impl_in.f a1 0 (wrap64 ((wrap64 (2 * (wrap64 ((wrap64 (1 + a0_0)) + (l0_1.length : Int))))) - 1))).bind fun t108 => (some t108)
set_option maxHeartbeats 8000000 in
set_option maxRecDepth 100000 in
theorem impl_Circuit_isEdge.calls (a0_0 : Int) (A0_1 : Option Addr) (c0_1 : Nat) (l0_1 : List (S92)) (a1 : Int) (r : Bool) (w : World) (hr0_1 : Kd.C k92 w A0_1 l0_1.length l0_1) (hc0_1 : l0_1.length ≤ c0_1) (h : impl_Circuit_isEdge.f a0_0 l0_1 a1 = some r) :
  Calls Try.prog 59 #[.agg #[.int .i64 a0_0, .slice A0_1 l0_1.length c0_1], .int .i64 a1] w fun e w' => e = .returned (.bool r) ∧ Below w.heap.size w w' := by
 have hu28 := Try.underlying28
 have HR0_1 := Aside0.mk hr0_1
 have HC0_1 := Aside0.mk hc0_1
 clear hr0_1 hc0_1
 have HB := Aside0.mk (Below.refl w.heap.size w)
 have H : ((impl_in.f a1 0 (wrap64 ((wrap64 (2 * (wrap64 ((wrap64 (1 + a0_0)) + (l0_1.length : Int))))) - 1))).bind fun t108 => (some t108)) = some r := h
 clear h
 replace H := Option.bind_eq_some_iff.mp H
 obtain ⟨t108, A30, H⟩ := H
 replace H : (some t108) = some r := H
 have A3 := Aside0.mk A30
 clear A30
 obtain rfl := Option.some.inj H
 go_enter Try.func59, Try.ntmps59
 go_wp2_with (first | ((with_reducible refine gate_dst (N := 2) rfl ?_); refine box_event ?hg (N := 2) ?hd (cs := #[.int .i64 a0_0, .slice A0_1 l0_1.length c0_1]) (t := 28) ?hr ?_; (case hd => rfl); (case hg => rfl); (case hr => first | (go_simp; done) | (go_simp; rfl)); intro gb107 hg w4 hbox hb; have n0_ := Aside0.mk (below_step hbB hb); have n1_ := Aside0.mk (hbox); have n2_ := Aside0.mk ((gwb hg (below_size hbB) : w.heap.size ≤ gb107)); have n3_ := n2_; clear HB; have HB := n0_; have BK107 := n1_; have GW107 := n2_; have GE107 := n3_; clear n0_ n1_ n2_ n3_; clear hb hbox hg; have hcz5_0 : w4.cell? ⟨gb107, 0, none⟩ = some (.int .i64 a0_0) := (blk_cell BK107.out 0).trans rfl; have hcz5_1 : w4.cell? ⟨gb107, 1, none⟩ = some (.slice A0_1 l0_1.length c0_1) := (blk_cell BK107.out 1).trans rfl; have hfz5_0 := blk_frozen BK107.out 0; have hfz5_1 := blk_frozen BK107.out 1) | ((with_reducible refine gate_callee (f := 73) rfl ?_); refine goesL_ (some 15) rfl rfl Try.func73 (by kernel_rfl) rfl #[.int .i64 a1, .int .i64 0, .int .i64 (wrap64 ((wrap64 (2 * (wrap64 ((wrap64 (1 + a0_0)) + (l0_1.length : Int))))) - 1))] rfl lmB ?_; (with_reducible refine (impl_in.calls a1 0 (wrap64 ((wrap64 (2 * (wrap64 ((wrap64 (1 + a0_0)) + (l0_1.length : Int))))) - 1)) t108 _ A3.out).mono ?_); rintro e w' ⟨rfl, ⟨nd, rfl⟩⟩; refine ⟨_, rfl, ?_⟩))
 go_ret
 exact ⟨ers, hbC⟩

/-! ### slices_IndexFunc_int_int: function 136 -/
set_option maxHeartbeats 400000 in
theorem slices_IndexFunc_int_int.calls (g : Nat) (lb : Array Value) (eg : ∀ args w, (callFunc g args).run Try.prog w = .ok (.enter g args) w)
  (A0 : Option Addr) (c0 : Nat) (l0 : List Int) (p : Int → Option Bool) (r : Int) (w : World) (hr0 : Kd.C (Kd.int .i64) w A0 l0.length l0)
  (hp : ∀ (i : Int), 0 ≤ i → i < l0.length → ∀ b, p i = some b → ∀ W, Below w.heap.size w W → Calls Try.prog g (#[.int .i64 (rd l0 i)] ++ lb) W fun e w' => e = .returned (.bool b) ∧ Below W.heap.size W w')
  (h : Copy.idxO p l0.length 0 = some r) :
  Calls Try.prog 136 #[.slice A0 l0.length c0, .func (.func g) #[] lb] w fun e w' => e = .returned (.int .i64 r) ∧ Below w.heap.size w w' := by
 have hn : l0.length ≤ 9223372036854775807 := hr0.2.1
 have HR0 := Aside0.mk hr0
 have HP := Aside0.mk hp
 have H := Aside0.mk h
 clear hp hr0 h
 go_enter Try.func136, Try.ntmps136
 go_wp2
 go_loopg [5, 8] l0.length (fun gg _ s8 wr => ∃ kk : Int, 0 ≤ kk ∧ kk ≤ (l0.length : Int) ∧ Aside0 (l0.length ≤ gg + kk) ∧ s8 = .int .i64 kk ∧ Aside0 (Below w.heap.size w wr) ∧ Aside0 (Copy.idxO p (l0.length - kk.toNat) kk = some r))
 case atStart => exact ⟨0, by omega, by omega, ⟨by omega⟩, rfl, ⟨Below.refl _ _⟩, H⟩
 case round =>
  clear H
  obtain ⟨kk, h0, hkk, hg, rfl, HB, A⟩ := hrel
  by_cases hlt : kk < (l0.length : Int)
  ·have hltb : decide (kk < (l0.length : Int)) = true := decide_eq_true hlt
   obtain ⟨ad, e1, hx0⟩ := Kd.at_int (Kd.C_below HR0.out HB.out) kk h0 hlt
   cases e1
   have hd : l0.length - kk.toNat = (l0.length - (kk + 1).toNat) + 1 := by omega
   have A1 := A.out
   rw [hd, Copy.idxO] at A1
   clear A hd
   obtain ⟨b, hq, A1⟩ := Option.bind_eq_some_iff.mp A1
   have hcall := Aside0.mk (HP.out kk h0 hlt b hq _ HB.out)
   have H0 := Aside0.mk h0
   replace h0 := eq_true h0
   clear hq
   cases b with
   | true =>
    rw [if_pos rfl] at A1
    obtain rfl := Option.some.inj A1
    clear A1
    go_wp2_with (go_at_fn g; refine hcall.out.mono ?_; rintro e w' ⟨rfl, HB1⟩)
    go_ret
    exact ⟨rfl, below_then HB.out HB.out.size HB1⟩
   | false =>
    have A' := Aside0.mk A1
    clear A1
    have hw : wrap64 (kk + 1) = kk + 1 := by have := H0.out; unfold wrap64; omega
    have HW := Aside0.mk hw
    clear hw
    go_wp2_with (go_at_fn g; refine hcall.out.mono ?_; rintro e w' ⟨rfl, HB1⟩)
    go_roundg (l0.length - (kk + 1).toNat)
    case measure => have := hg.out; have := H0.out; omega
    case rel => exact ⟨kk + 1, by have := H0.out; omega, by omega, ⟨by have := H0.out; omega⟩, by first | rfl | rw [HW.out], ⟨below_then HB.out HB.out.size HB1⟩, ⟨by have := A'.out; simpa using this⟩⟩
  ·have hltb : decide (kk < (l0.length : Int)) = false := decide_eq_false hlt
   have this : kk.toNat = l0.length := by omega
   have A1 := A.out
   rw [this, Nat.sub_self, Copy.idxO] at A1
   obtain rfl := Option.some.inj A1
   clear A A1 this
   go_wp2
   go_ret
   exact ⟨rfl, HB.out⟩

/-! ### slices_ContainsFunc_int_int: function 112 -/
set_option maxHeartbeats 400000 in
theorem slices_ContainsFunc_int_int.calls (g : Nat) (lb : Array Value) (eg : ∀ args w, (callFunc g args).run Try.prog w = .ok (.enter g args) w)
  (A0 : Option Addr) (c0 : Nat) (l0 : List Int) (p : Int → Option Bool) (r : Int) (w : World) (hr0 : Kd.C (Kd.int .i64) w A0 l0.length l0)
  (hp : ∀ (i : Int), 0 ≤ i → i < l0.length → ∀ b, p i = some b → ∀ W, Below w.heap.size w W → Calls Try.prog g (#[.int .i64 (rd l0 i)] ++ lb) W fun e w' => e = .returned (.bool b) ∧ Below W.heap.size W w')
  (h : Copy.idxO p l0.length 0 = some r) :
  Calls Try.prog 112 #[.slice A0 l0.length c0, .func (.func g) #[] lb] w fun e w' => e = .returned (.bool (decide (0 ≤ r))) ∧ Below w.heap.size w w' := by
 have HC := Aside0.mk (slices_IndexFunc_int_int.calls g lb eg A0 c0 l0 p r w hr0 hp h)
 clear hp hr0 h
 go_enter Try.func112, Try.ntmps112
 go_wp2_with (go_at_call 136; refine HC.out.mono ?_; rintro e w' ⟨rfl, HB1⟩)
 go_ret
 exact ⟨rfl, HB1⟩

/-! ### impl_bitsValid: function 69 -/
def impl_bitsValid.p (l0 : List Int) (i : Int) : Option Bool := (impl_in.f (rd l0 i) 0 1).bind fun b => some (!b)
theorem impl_bitsValid_pred (l0 : List Int) (w : World) : ∀ (i : Int), 0 ≤ i → i < l0.length → ∀ b, impl_bitsValid.p l0 i = some b → ∀ W, Below w.heap.size w W → Calls Try.prog 113 (#[.int .i64 (rd l0 i)] ++ #[]) W fun e w' => e = .returned (.bool b) ∧ Below W.heap.size W w' := by
 intro i h0 h1 b hb W hW
 obtain ⟨b1, hb1, hb2⟩ := Option.bind_eq_some_iff.mp hb
 obtain rfl := Option.some.inj hb2
 clear hb hb2
 have HC := Aside0.mk (impl_in.calls (rd l0 i) 0 1 b1 W hb1)
 clear hb1 hW h0 h1
 show Calls Try.prog 113 #[.int .i64 (rd l0 i)] W _
 generalize rd l0 i = x at HC ⊢
 cases b1
 all_goals
  go_enter Try.func113, Try.ntmps113
  go_wp2_with (go_at_call 73; refine HC.out.mono ?_; rintro e w' ⟨rfl, ⟨nd, rfl⟩⟩)
  go_ret
  exact ⟨by first | rfl | simp, by first | exact (Drawn0.below ⟨nd, rfl⟩) | exact Drawn0.below (Drawn0.mk ⟨_, rfl⟩)⟩
def impl_bitsValid.f (l0 : List Int) : Option Bool := (Copy.idxO (impl_bitsValid.p l0) l0.length 0).bind fun r => some (!(decide (0 ≤ r)))
set_option maxHeartbeats 400000 in
theorem impl_bitsValid.calls (A0 : Option Addr) (c0 : Nat) (l0 : List Int) (r : Bool) (w : World) (hr0 : Kd.C (Kd.int .i64) w A0 l0.length l0) (hc0 : l0.length ≤ c0) (h : impl_bitsValid.f l0 = some r) :
  Calls Try.prog 69 #[.slice A0 l0.length c0] w fun e w' => e = .returned (.bool r) ∧ Below w.heap.size w w' := by
 have eg : ∀ args w, (callFunc 113 args).run Try.prog w = .ok (.enter 113 args) w := enters_of Try.func113 (by kernel_rfl) rfl
 unfold impl_bitsValid.f at h
 obtain ⟨ri, hi, h⟩ := Option.bind_eq_some_iff.mp h
 obtain rfl := Option.some.inj h
 have HC := slices_ContainsFunc_int_int.calls 113 #[] eg A0 c0 l0 _ ri w hr0 (impl_bitsValid_pred l0 w) hi
 clear hi h hr0 eg
 generalize decide (0 ≤ ri) = b at HC ⊢
 have HC' := Aside0.mk HC
 clear HC
 cases b
 all_goals
  go_enter Try.func69, Try.ntmps69
  go_wp2_with (go_at_call 112; refine HC'.out.mono ?_; rintro e w' ⟨rfl, HB1⟩)
  go_ret
  exact ⟨by first | rfl | simp, HB1⟩

/-! ### impl_edgeOf: function 72 -/
def impl_edgeOf.f (l0 : List Int) (a1 : Int) : Option (Int) := if 0 ≤ (wrap64 (Int.tdiv a1 2)) then (if (wrap64 (Int.tdiv a1 2)) < (l0.length : Int) then (some (Go.bits .xor .i64 (rd l0 (wrap64 (Int.tdiv a1 2))) (Go.bits .and .i64 a1 1))) else (none)) else (none)
set_option maxHeartbeats 8000000 in
set_option maxRecDepth 100000 in
theorem impl_edgeOf.calls (A0 : Option Addr) (c0 : Nat) (l0 : List Int) (a1 : Int) (r : Int) (w : World) (hr0 : Kd.C (Kd.int .i64) w A0 l0.length l0) (hc0 : l0.length ≤ c0) (h : impl_edgeOf.f l0 a1 = some r) :
  Calls Try.prog 72 #[.slice A0 l0.length c0, .int .i64 a1] w fun e w' => e = .returned (.int .i64 r) ∧ Drawn0 w w' := by
 have HR0 := Aside0.mk hr0
 have HC0 := Aside0.mk hc0
 clear hr0 hc0
 have H : (if 0 ≤ (wrap64 (Int.tdiv a1 2)) then (if (wrap64 (Int.tdiv a1 2)) < (l0.length : Int) then (some (Go.bits .xor .i64 (rd l0 (wrap64 (Int.tdiv a1 2))) (Go.bits .and .i64 a1 1))) else (none)) else (none)) = some r := h
 clear h
 obtain ⟨ji3, hji3⟩ : ∃ j_ : Int, (wrap64 (Int.tdiv a1 2)) = j_ := ⟨_, rfl⟩
 replace H : (if 0 ≤ (ji3) then (if (ji3) < (l0.length : Int) then (some (Go.bits .xor .i64 (rd l0 (ji3)) (Go.bits .and .i64 a1 1))) else (none)) else (none)) = some r := by first | (rw [hji3] at H; exact H) | (simp only [hji3] at H ⊢; exact H)
 have hji3w : (IntKind.i64.wrap (Int.tdiv a1 2)) = ji3 := (i64_w _).trans hji3
 by_cases c4 : 0 ≤ (ji3)
 ·rw [if_pos c4] at H
  have c4b0 : decide (0 ≤ (ji3)) = true := decide_eq_true c4
  clear c4
  by_cases c5 : (ji3) < (l0.length : Int)
  ·rw [if_pos c5] at H
   have c5b0 : decide ((ji3) < (l0.length : Int)) = true := decide_eq_true c5
   clear c5
   obtain rfl := Option.some.inj H
   have p109 : 0 ≤ ((ji3) : Int) := oda
   have q109 : (ji3) < (l0.length : Int) := oda
   obtain ⟨ad109, e109, hx109_0⟩ := Kd.at_int HR0.out (ji3) p109 q109
   cases e109
   replace p109 := eq_true p109
   replace q109 := eq_true q109
   go_enter Try.func72, Try.ntmps72
   go_wp2
   go_ret
   exact ⟨by first | rfl | (simp; done) | (simp only [← hji3] <;> (first | rfl | simp)) | (simp [*]; done), by repeat (first | exact Drawn0.refl _ | apply Drawn0.step)⟩
  ·rw [if_neg c5] at H
   exact absurd H (by simp)
 ·rw [if_neg c4] at H
  exact absurd H (by simp)

/-! ### impl_Circuit_values: function 71 -/
def impl_Circuit_values.l0 : Nat → List Int → List (S92) → Int → Int → Option (List Int)
 | 0, _, _, _, _ => none
 | k + 1, x5, x12, x13, x14 => if x14 < x13 then (if 0 ≤ x14 then (if x14 < (x12.length : Int) then ((impl_edgeOf.f x5 ((rd_T92 x12 x14).f0)).bind fun t119 => ((impl_edgeOf.f x5 ((rd_T92 x12 x14).f1)).bind fun t120 => (if x5.length < 17592186044416 then (impl_Circuit_values.l0 k (x5 ++ [Go.bits .and .i64 t119 t120]) x12 x13 (wrap64 (x14 + 1))) else (none)))) else (none)) else (none)) else (some x5)
def impl_Circuit_values.f (k : Nat) (a0_0 : Int) (l0_1 : List (S92)) (l1 : List Int) : Option (List Int) := (some (([0] : List Int) : List Int)).bind fun y111 => (if y111.length + l1.length < 17592186044416 then (impl_Circuit_values.l0 k (y111 ++ l1) l0_1 (l0_1.length : Int) 0) else (none))
theorem impl_Circuit_values.mono_l : ∀ k, (∀ y0 y1 y2 y3, LeO (impl_Circuit_values.l0 k y0 y1 y2 y3) (impl_Circuit_values.l0 (k + 1) y0 y1 y2 y3))
 | 0 => fun _ _ _ _ r h => by simp [impl_Circuit_values.l0] at h
 | k + 1 => by
  have ih0 := impl_Circuit_values.mono_l k
  ·intro y0 y1 y2 y3
   unfold impl_Circuit_values.l0
   repeat' first
   | (with_reducible exact ih0 _ _ _ _)
   | (with_reducible exact LeO.refl _)
   | (with_reducible exact LeO.none _)
   | (with_reducible refine LeO.ite ?_ ?_)
   | (with_reducible refine LeO.bind ?_ (fun _ => ?_))
   | exact ih0 _ _ _ _
   | exact LeO.none _
   | refine LeO.ite ?_ ?_
   | refine LeO.bind ?_ (fun _ => ?_)
theorem impl_Circuit_values.mono : ∀ a0 a1 a2 k, LeO (impl_Circuit_values.f k a0 a1 a2) (impl_Circuit_values.f (k + 1) a0 a1 a2) := by
 intro a0 a1 a2 k
 have ih0 := impl_Circuit_values.mono_l k
 unfold impl_Circuit_values.f
 repeat' first
   | (with_reducible exact ih0 _ _ _ _)
   | (with_reducible exact LeO.refl _)
   | (with_reducible exact LeO.none _)
   | (with_reducible refine LeO.ite ?_ ?_)
   | (with_reducible refine LeO.bind ?_ (fun _ => ?_))
   | exact ih0 _ _ _ _
   | exact LeO.none _
   | refine LeO.ite ?_ ?_
   | refine LeO.bind ?_ (fun _ => ?_)
def impl_Circuit_values.T5 : Bool × List (List Nat × List Nat) := (true, [([], []), ([], []), ([], []), ([2], [2]), ([1, 3], [1, 3]), ([], []), ([], []), ([6], [6]), ([5, 7, 4], [5, 7]), ([4, 8], [4, 8]), ([9], [9]), ([0, 10, 8], [0, 10]), ([11, 11, 0, 1, 2, 3, 4, 5, 6, 7, 8, 9, 10, 11], [0, 1, 5, 11])])
def impl_Circuit_values.B5 : List Nat := [0, 0, 0, 4, 14, 0, 0, 64, 254, 510, 1022, 2047, 4095]
theorem impl_Circuit_values.tab5 : rtab .any (opsOf Try.f71 5) = impl_Circuit_values.T5 := by kernel_rfl
theorem impl_Circuit_values.bits5 : waitsOk impl_Circuit_values.T5.2 impl_Circuit_values.B5 = true := by kernel_rfl
set_option maxHeartbeats 8000000 in
set_option maxRecDepth 100000 in
theorem impl_Circuit_values.calls (k : Nat) (a0_0 : Int) (A0_1 : Option Addr) (c0_1 : Nat) (l0_1 : List (S92)) (A1 : Option Addr) (c1 : Nat) (l1 : List Int) (r : List Int) (w : World) (hr0_1 : Kd.C k92 w A0_1 l0_1.length l0_1) (hc0_1 : l0_1.length ≤ c0_1) (hr1 : Kd.C (Kd.int .i64) w A1 l1.length l1) (hc1 : l1.length ≤ c1) (h : impl_Circuit_values.f k a0_0 l0_1 l1 = some r) :
  Calls Try.prog 71 #[.agg #[.int .i64 a0_0, .slice A0_1 l0_1.length c0_1], .slice A1 l1.length c1] w fun e w' => ∃ v0_ : Value, e = .returned (v0_) ∧ Kd.R (Kd.int .i64) 3 w' w.heap.size (fun _ => True) v0_ r ∧ Below w.heap.size w w' := by
 have hu28 := Try.underlying28
 have hu92 := Try.underlying92
 have HR0_1 := Aside0.mk hr0_1
 have HC0_1 := Aside0.mk hc0_1
 clear hr0_1 hc0_1
 have HR1 := Aside0.mk hr1
 have HC1 := Aside0.mk hc1
 clear hr1 hc1
 have HB := Aside0.mk (Below.refl w.heap.size w)
 have H : ((some (([0] : List Int) : List Int)).bind fun y111 => (if y111.length + l1.length < 17592186044416 then (impl_Circuit_values.l0 k (y111 ++ l1) l0_1 (l0_1.length : Int) 0) else (none))) = some r := h
 clear h
 obtain ⟨y111, hy111⟩ : ∃ y_ : List Int, y_ = (([0] : List Int)) := ⟨_, rfl⟩
 replace H : (if y111.length + l1.length < 17592186044416 then (impl_Circuit_values.l0 k (y111 ++ l1) l0_1 (l0_1.length : Int) 0) else (none)) = some r := by first | (rw [hy111]; with_reducible exact H) | (have H2_ := (Option.bind_some _ _).symm.trans H; rw [hy111]; with_reducible exact H2_) | (have H2_ := (Option.bind_some _ _).symm.trans H; with_reducible exact H2_) | with_reducible exact H | (rw [hy111]; exact H) | exact H
 have Ny111 := Aside0.mk hy111
 clear hy111
 by_cases c3 : y111.length + l1.length < 17592186044416
 ·rw [if_pos c3] at H
  have LMc3 := Aside0.mk c3
  clear c3
  obtain ⟨y114, hy114⟩ : ∃ y_ : List Int, y_ = (y111 ++ l1) := ⟨_, rfl⟩
  replace H : (impl_Circuit_values.l0 k y114 l0_1 (l0_1.length : Int) 0) = some r := by first | (rw [hy114]; with_reducible exact H) | (have H2_ := (Option.bind_some _ _).symm.trans H; rw [hy114]; with_reducible exact H2_) | (have H2_ := (Option.bind_some _ _).symm.trans H; with_reducible exact H2_) | with_reducible exact H | (rw [hy114]; exact H) | exact H
  have Ny114 := Aside0.mk hy114
  clear hy114
  have H' := Aside0.mk H
  clear H
  go_enter Try.func71, Try.ntmps71
  go_wp2_with (first | ((with_reducible refine gate_dst (N := 2) rfl ?_); refine box_event ?hg (N := 2) ?hd (cs := #[.int .i64 a0_0, .slice A0_1 l0_1.length c0_1]) (t := 28) ?hr ?_; (case hd => rfl); (case hg => rfl); (case hr => first | (go_simp; done) | (go_simp; rfl)); intro gb110 hg w4 hbox hb; have n0_ := Aside0.mk (below_step hbB hb); have n1_ := Aside0.mk (hbox); have n2_ := Aside0.mk ((gwb hg (below_size hbB) : w.heap.size ≤ gb110)); have n3_ := n2_; clear HB; have HB := n0_; have BK110 := n1_; have GW110 := n2_; have GE110 := n3_; clear n0_ n1_ n2_ n3_; clear hb hbox hg) | ((with_reducible refine gate_dst (N := 8) rfl ?_); refine Kd.R_lit (Kd.int .i64) _ 3 ?hg (N := 8) ?hd (xs := ([0] : List Int)) (inner := [.int .i64 0]) (ok := fun _ => True) (okp := fun _ => True) ?hr ?hp (fun _ hk => hk) trivial (Below.refl _ _) (Nat.le_refl _) (by simp) ?_; (case hd => rfl); (case hg => rfl); (case hr => first | (go_simp; done) | (go_simp; rfl)); (case hp => exact (Reps.one (show Kd.M (Kd.int .i64) _ _ _ 0 [.int .i64 0] from rfl) (Reps.none _ _))); intro v112 w5 ho6 hb hg_ hnew_; clear hg_ hnew_; (first | rw [← Ny111.out] at ho6 | (simp only [Int.reduceToNat] at ho6; rw [← Ny111.out] at ho6)); have n0_ := Aside0.mk (Kd.R_lower ho6 (below_size hbC)); have n1_ := Aside0.mk (blk_below (g := gb110) (o := .cells #[.int .i64 a0_0, .slice A0_1 l0_1.length c0_1] 28 (0, 0)) (bvK BK110.out) hb); have n2_ := Aside0.mk (below_step hbC hb); clear BK110; clear HB; have HO113 := n0_; have BK110 := n1_; have HB := n2_; clear n0_ n1_ n2_; clear hb ho6) | ((with_reducible refine gate_builtin (b := .append) (xs := #[.tmp 8, .tmp 9]) rfl ?_); at_builtin; refine Kd.R_append_rows (Kd.int .i64) (w0 := w) w.heap.size rfl (.tmp 8) (.tmp 9) 38 3 (.int .i64 0) 8 rfl Try.underlying38 info3 rfl (by decide) (by omega) v112 y111 l1 _ _ _ (fun _ => True) (fun _ => False) rfl rfl ?aO ?aR (fun _ _ h => h) (fun _ h => h.elim) ?aF ?aB ?aS ?aL ?_; (case aR => repeat (first | exact (Kd.C_below HR1.out HB.out) | (with_reducible refine Kd.C_alloc ?_ _) | (with_reducible refine Kd.C_drewN ?_ _) | (with_reducible refine Kd.C_drew ?_))); (case aB => exact hbC); (case aF => exact (fun _ _ => trivial)); (case aO => exact (rvR HO113.out)); (case aS => exact (below_size hbC)); (case aL => have := LMc3.out; omega); intro v115 w7 ho hb hg hat; rw [← Ny114.out] at ho; have n0_ := Aside0.mk (blk_grown (g := gb110) (o := .cells #[.int .i64 a0_0, .slice A0_1 l0_1.length c0_1] 28 (0, 0)) (bvK BK110.out) hg (Kd.R_ne HO113.out BK110.out (by decide))); have n1_ := Aside0.mk (hb); have n2_ := Aside0.mk (ho); clear BK110; clear HB; clear HO113; have BK110 := n0_; have HB := n1_; have HO116 := n2_; clear n0_ n1_ n2_; clear ho hb hg hat; have hcz8_0 : w7.cell? ⟨gb110, 0, none⟩ = some (.int .i64 a0_0) := (blk_cell BK110.out 0).trans rfl; have hcz8_1 : w7.cell? ⟨gb110, 1, none⟩ = some (.slice A0_1 l0_1.length c0_1) := (blk_cell BK110.out 1).trans rfl; have hfz8_0 := blk_frozen BK110.out 0; have hfz8_1 := blk_frozen BK110.out 1))
  go_loopg [5, 14] k (fun kq v5 v14 w' => ∃ (x5_1 : List Int) (x14_1 : Int), v14 = .int .i64 x14_1 ∧ Aside0 (impl_Circuit_values.l0 kq x5_1 l0_1 (l0_1.length : Int) x14_1 = some r) ∧ Aside0 (kq ≤ k) ∧ Aside0 (Kd.R (Kd.int .i64) 3 w' w.heap.size (fun _ => True) v5 x5_1) ∧ Aside0 (w'.heap[gb110]? = some (.cells #[.int .i64 a0_0, (.slice A0_1 l0_1.length c0_1)] 28 (0, 0))) ∧ Aside0 (Below w.heap.size w w'))
  case atStart => exact ⟨(y114), (0), rsd, H', ⟨Nat.le_refl _⟩, ⟨rvR HO116.out⟩, ⟨bvK BK110.out⟩, ⟨hbC⟩⟩
  case round =>
   clear H'
   try clear c1
   try clear p2
   try clear c3
   try clear c7
   try clear hcz8_0
   try clear hcz8_1
   try clear hfz8_0
   try clear hfz8_1
   obtain ⟨x5_1, x14_1, rfl, HA, HK1, HO_5, BK110, HB⟩ := hrel
   cases gk with
   | zero => exact absurd HA.out (by simp [impl_Circuit_values.l0])
   | succ k1 =>
    have H := HA.out
    clear HA
    simp only [impl_Circuit_values.l0] at H
    by_cases c9 : x14_1 < (l0_1.length : Int)
    ·rw [if_pos c9] at H
     have c9b0 : decide (x14_1 < (l0_1.length : Int)) = true := decide_eq_true c9
     clear c9
     by_cases c10 : 0 ≤ x14_1
     ·rw [if_pos c10] at H
      have c10b0 : decide (0 ≤ x14_1) = true := decide_eq_true c10
      clear c10
      by_cases c11 : x14_1 < (l0_1.length : Int)
      ·rw [if_pos c11] at H
       have c11b0 : decide (x14_1 < (l0_1.length : Int)) = true := decide_eq_true c11
       clear c11
       replace H := Option.bind_eq_some_iff.mp H
       obtain ⟨t119, A120, H⟩ := H
       replace H : ((impl_edgeOf.f x5_1 ((rd_T92 l0_1 x14_1).f1)).bind fun t120 => (if x5_1.length < 17592186044416 then (impl_Circuit_values.l0 k1 (x5_1 ++ [Go.bits .and .i64 t119 t120]) l0_1 (l0_1.length : Int) (wrap64 (x14_1 + 1))) else (none))) = some r := H
       have A12 := Aside0.mk A120
       clear A120
       replace H := Option.bind_eq_some_iff.mp H
       obtain ⟨t120, A130, H⟩ := H
       replace H : (if x5_1.length < 17592186044416 then (impl_Circuit_values.l0 k1 (x5_1 ++ [Go.bits .and .i64 t119 t120]) l0_1 (l0_1.length : Int) (wrap64 (x14_1 + 1))) else (none)) = some r := H
       have A13 := Aside0.mk A130
       clear A130
       by_cases c14 : x5_1.length < 17592186044416
       ·rw [if_pos c14] at H
        have LMc14 := Aside0.mk c14
        clear c14
        obtain ⟨y121, hy121⟩ : ∃ y_ : List Int, y_ = (x5_1 ++ [Go.bits .and .i64 t119 t120]) := ⟨_, rfl⟩
        replace H : (impl_Circuit_values.l0 k1 y121 l0_1 (l0_1.length : Int) (wrap64 (x14_1 + 1))) = some r := by first | (rw [hy121]; with_reducible exact H) | (have H2_ := (Option.bind_some _ _).symm.trans H; rw [hy121]; with_reducible exact H2_) | (have H2_ := (Option.bind_some _ _).symm.trans H; with_reducible exact H2_) | with_reducible exact H | (rw [hy121]; exact H) | exact H
        have Ny121 := Aside0.mk hy121
        clear hy121
        have H' := Aside0.mk H
        clear H
        have p117 : 0 ≤ (x14_1 : Int) := oda
        have q117 : x14_1 < (l0_1.length : Int) := oda
        obtain ⟨ad117, e117, hx117_0, hx117_1⟩ := at_T92 HR0_1.out x14_1 p117 q117
        cases e117
        try replace hx117_0 := bct HB.out hx117_0
        try replace hx117_1 := bct HB.out hx117_1
        replace p117 := eq_true p117
        replace q117 := eq_true q117
        try go_wp2_with (first | ((with_reducible refine gate_dst (N := 7) rfl ?_); refine box_event ?hg (N := 7) ?hd (cs := #[.int .i64 0, .int .i64 0]) (t := 92) ?hr ?_; (case hd => rfl); (case hg => rfl); (case hr => first | (go_simp; done) | (go_simp; rfl)); intro gb118 hg w15 hbox hb; have n0_ := Aside0.mk (Kd.R_below (rvR HO_5.out) hb); have n1_ := Aside0.mk (blk_below (g := gb110) (o := .cells #[.int .i64 a0_0, .slice (some ad117) l0_1.length c0_1] 28 (0, 0)) (bvK BK110.out) hb); have n2_ := Aside0.mk (below_step hbC hb); have n3_ := Aside0.mk (hbox); have n4_ := Aside0.mk ((gwb hg (below_size hbC) : w.heap.size ≤ gb118)); have n5_ := n4_; have n6_ := Aside0.mk ((by rw [hg]; exact Nat.ne_of_lt (blk_lt (g := gb110) (o := .cells #[.int .i64 a0_0, .slice (some ad117) l0_1.length c0_1] 28 (0, 0)) (bvK BK110.out)) : gb110 ≠ gb118)); have n7_ := Aside0.mk ((by rw [hg]; exact Nat.ne_of_gt (blk_lt (g := gb110) (o := .cells #[.int .i64 a0_0, .slice (some ad117) l0_1.length c0_1] 28 (0, 0)) (bvK BK110.out)) : gb118 ≠ gb110)); clear HO_5; clear BK110; clear HB; have HO_5 := n0_; have BK110 := n1_; have HB := n2_; have BK118 := n3_; have GW118 := n4_; have GE118 := n5_; have NB110_118 := n6_; have NB118_110 := n7_; clear n0_ n1_ n2_ n3_ n4_ n5_ n6_ n7_; clear hb hbox hg; have hnb16 := NB118_110.out; have hnc16 := NB110_118.out; have hcz17_0 : w15.cell? ⟨gb118, 0, none⟩ = some (.int .i64 0) := (blk_cell BK118.out 0).trans rfl; have hcz17_1 : w15.cell? ⟨gb118, 1, none⟩ = some (.int .i64 0) := (blk_cell BK118.out 1).trans rfl; have hfz17_0 := blk_frozen BK118.out 0; have hfz17_1 := blk_frozen BK118.out 1))
        have n0_ : Aside0 (Kd.R (Kd.int .i64) 3 ((w15.setCell ⟨gb118, 0, none⟩ (.int .i64 ((rd_T92 l0_1 x14_1).f0))).setCell ⟨gb118, 1, none⟩ (.int .i64 ((rd_T92 l0_1 x14_1).f1))) w.heap.size (fun _ => True) u5 x5_1) := ⟨by (with_reducible repeat (first | apply Kd.R_alloc | apply Kd.R_drewN | apply Kd.R_drew)); exact Kd.R_mono (Kd.R_far (p := ⟨gb118, 1, none⟩) (Kd.R_far (p := ⟨gb118, 0, none⟩) (Kd.R_types HO_5.out BK118.out (by decide)) (fun _ hk => hk.2) (.int .i64 ((rd_T92 l0_1 x14_1).f0))) (fun _ hk => hk.2) (.int .i64 ((rd_T92 l0_1 x14_1).f1))) (fun _ hk => trivial)⟩
        have n1_ : Aside0 (((w15.setCell ⟨gb118, 0, none⟩ (.int .i64 ((rd_T92 l0_1 x14_1).f0))).setCell ⟨gb118, 1, none⟩ (.int .i64 ((rd_T92 l0_1 x14_1).f1))).heap[gb110]? = some (.cells #[.int .i64 a0_0, .slice (some ad117) l0_1.length c0_1] 28 (0, 0))) := ⟨by (with_reducible repeat (first | refine blk_drewN ?_ _ | refine blk_drew ?_ | refine blk_alloc ?_ _)); refine blk_far ?_ NB110_118.out _; (with_reducible repeat (first | refine blk_drewN ?_ _ | refine blk_drew ?_ | refine blk_alloc ?_ _)); refine blk_far ?_ NB110_118.out _; (with_reducible repeat (first | refine blk_drewN ?_ _ | refine blk_drew ?_ | refine blk_alloc ?_ _)); exact BK110.out⟩
        have n2_ : Aside0 (((w15.setCell ⟨gb118, 0, none⟩ (.int .i64 ((rd_T92 l0_1 x14_1).f0))).setCell ⟨gb118, 1, none⟩ (.int .i64 ((rd_T92 l0_1 x14_1).f1))).heap[gb118]? = some (.cells #[.int .i64 ((rd_T92 l0_1 x14_1).f0), .int .i64 ((rd_T92 l0_1 x14_1).f1)] 92 (0, 0))) := ⟨by (with_reducible repeat (first | refine blk_drewN ?_ _ | refine blk_drew ?_ | refine blk_alloc ?_ _)); refine blk_put (cs := #[.int .i64 ((rd_T92 l0_1 x14_1).f0), .int .i64 0]) ?_ 1 _ rfl; (with_reducible repeat (first | refine blk_drewN ?_ _ | refine blk_drew ?_ | refine blk_alloc ?_ _)); refine blk_put (cs := #[.int .i64 0, .int .i64 0]) ?_ 0 _ rfl; (with_reducible repeat (first | refine blk_drewN ?_ _ | refine blk_drew ?_ | refine blk_alloc ?_ _)); exact BK118.out⟩
        have n3_ : Aside0 (Below w.heap.size w ((w15.setCell ⟨gb118, 0, none⟩ (.int .i64 ((rd_T92 l0_1 x14_1).f0))).setCell ⟨gb118, 1, none⟩ (.int .i64 ((rd_T92 l0_1 x14_1).f1)))) := ⟨hbC⟩
        (try clear HO_5)
        (try clear BK110)
        (try clear BK118)
        (try clear HB)
        generalize ((w15.setCell ⟨gb118, 0, none⟩ (.int .i64 ((rd_T92 l0_1 x14_1).f0))).setCell ⟨gb118, 1, none⟩ (.int .i64 ((rd_T92 l0_1 x14_1).f1))) = w18 at n0_ n1_ n2_ n3_ ⊢
        have HO_5 := n0_
        have BK110 := n1_
        have BK118 := n2_
        have HB := n3_
        clear n0_ n1_ n2_ n3_
        have n0_ := Aside0.mk (Kd.R_drew HO_5.out)
        have n1_ := Aside0.mk (blk_drew BK110.out)
        have n2_ := Aside0.mk (blk_drew BK118.out)
        have n3_ := Aside0.mk (below_drew1 HB.out)
        clear HO_5
        clear BK110
        clear BK118
        clear HB
        have HO_5 := n0_
        have BK110 := n1_
        have BK118 := n2_
        have HB := n3_
        clear n0_ n1_ n2_ n3_
        obtain ⟨Ao20, co20, eo20⟩ := Kd.R_slice HO_5.out
        (first | subst eo20 | (injection eo20 with f1_ f2_ f3_; have f4_ := f1_.symm; have f5_ := f3_.symm; clear f1_ f2_ f3_; subst f4_; subst f5_))
        refine start_ (n := 13) (S := fun w' => w'.cell? ⟨gb118, 0, none⟩ = some (.int .i64 ((rd_T92 l0_1 x14_1).f0)) ∧ w'.cell? ⟨gb118, 1, none⟩ = some (.int .i64 ((rd_T92 l0_1 x14_1).f1))) (ds := []) (Pt.bm 13 0) (by kernel_rfl) rfl rfl ⟨(blk_cell BK118.out 0).trans rfl, (blk_cell BK118.out 1).trans rfl⟩ (fun hHeld => ?_); refine with_tabW impl_Circuit_values.tab5 impl_Circuit_values.bits5 (fun HT_ HW_ => ?_)
        generalize w18.drew = w19 at HO_5 BK110 BK118 HB hHeld ⊢
        refine Pt.pu 0 (some 18) (Pt.bm 13 1) (any_of HT_.out (by kernel_rfl)) ?_
        refine Pt.pu 1 (some 19) (Pt.bm 13 3) (any_of HT_.out (by kernel_rfl)) ?_
        refine Pt.pu 2 (some 20) (Pt.bm 13 7) (any_of HT_.out (by kernel_rfl)) ?_
        refine Pt.pu 5 (some 23) (Pt.bm 13 39) (any_of HT_.out (by kernel_rfl)) ?_
        refine Pt.pu 6 (some 24) (Pt.bm 13 103) (any_of HT_.out (by kernel_rfl)) ?_
        refine Pt.tk 3 (some 21) (Pt.bm 13 111) rfl rfl (take_ofW HT_.out HW_.out (by kernel_rfl)) hHeld (Or.inl ⟨by rfl, by rintro w' ⟨s0, s1⟩; go_simp; with_reducible rfl⟩) ?_
        refine Pt.tk 7 (some 25) (Pt.bm 13 239) rfl rfl (take_ofW HT_.out HW_.out (by kernel_rfl)) hHeld (Or.inl ⟨by rfl, by rintro w' ⟨s0, s1⟩; go_simp; with_reducible rfl⟩) ?_
        refine one_ (i := 4) (N := some 22) (Pt.bm 13 255) rfl rfl (one_of HT_.out (by kernel_rfl)) (by decide) (fun K hK => ?_)
        refine goes_ Try.func72 (by kernel_rfl) rfl #[.slice Ao20 x5_1.length co20, .int .i64 ((rd_T92 l0_1 x14_1).f0)] (by rfl) rfl rfl lmB ?_
        with_reducible refine (impl_edgeOf.calls _ _ x5_1 ((rd_T92 l0_1 x14_1).f0) t119 _ ?side1 ?side2 A12.out).mono ?_
        (case side1 => exact kcR (Kd.R_reads' HO_5.out).2.2)
        (case side2 => exact (Kd.R_reads' HO_5.out).2.1)
        rintro e w' ⟨rfl, ⟨nd, rfl⟩⟩
        refine ⟨_, rfl, ?_⟩
        refine hK.out _ _ ⟨(blk_cell BK118.out 0).trans rfl, (blk_cell BK118.out 1).trans rfl⟩ (fun hHeld => ?_)
        clear hK K
        refine norm_ (a' := ?_) ?_ ?_
        rotate_left
        ·show Act.put _ (some 22) _ = _
         simp only [Act.put, List.setIfInBounds_toArray, List.set_cons_zero, List.set_cons_succ, i64_w, i32_w]
         rfl
        refine one_ (i := 8) (N := some 26) (Pt.bm 13 511) rfl rfl (one_of HT_.out (by kernel_rfl)) (by decide) (fun K hK => ?_)
        refine goes_ Try.func72 (by kernel_rfl) rfl #[.slice Ao20 x5_1.length co20, .int .i64 ((rd_T92 l0_1 x14_1).f1)] (by rfl) rfl rfl lmB ?_
        with_reducible refine (impl_edgeOf.calls _ _ x5_1 ((rd_T92 l0_1 x14_1).f1) t120 _ ?side1 ?side2 A13.out).mono ?_
        (case side1 => exact kcR (Kd.R_reads' HO_5.out).2.2)
        (case side2 => exact (Kd.R_reads' HO_5.out).2.1)
        rintro e w' ⟨rfl, ⟨nd, rfl⟩⟩
        refine ⟨_, rfl, ?_⟩
        refine hK.out _ _ ⟨(blk_cell BK118.out 0).trans rfl, (blk_cell BK118.out 1).trans rfl⟩ (fun hHeld => ?_)
        clear hK K
        refine norm_ (a' := ?_) ?_ ?_
        rotate_left
        ·show Act.put _ (some 26) _ = _
         simp only [Act.put, List.setIfInBounds_toArray, List.set_cons_zero, List.set_cons_succ, i64_w, i32_w]
         rfl
        refine Pt.pu 9 (some 27) (Pt.bm 13 1023) (any_of HT_.out (by kernel_rfl)) ?_
        refine one_ (i := 10) (N := some 28) (Pt.bm 13 2047) rfl rfl (one_of HT_.out (by kernel_rfl)) (by decide) (fun K hK => ?_)
        refine value_ (w1 := ?_) (v := ?_) (by rfl) rfl ?_ ?_
        rotate_left 2
        ·go_simp
         constructor
         ·rfl
         ·rfl
        refine hK.out _ _ ⟨(blk_cell (blk_alloc BK118.out _) 0).trans rfl, (blk_cell (blk_alloc BK118.out _) 1).trans rfl⟩ (fun hHeld => ?_)
        clear hK K
        refine norm_ (a' := ?_) ?_ ?_
        rotate_left
        ·show Act.put _ (some 28) _ = _
         simp only [Act.put, List.setIfInBounds_toArray, List.set_cons_zero, List.set_cons_succ, i64_w, i32_w]
         rfl
        refine one_ (i := 11) (N := some 29) (Pt.bm 13 4095) rfl rfl (one_of HT_.out (by kernel_rfl)) (by decide) (fun K hK => ?_)
        refine Kd.R_append_step (Kd.int .i64) (w0 := w) w.heap.size (by rfl) (.tmp 18) (.tmp 28) 38 3 (.int .i64 0) 8 rfl Try.underlying38 info3 rfl (by decide) (by omega) (.slice Ao20 x5_1.length co20) x5_1 (Go.bits .and .i64 t119 t120) [.int .i64 (Go.bits .and .i64 t119 t120)] (fun _ => True) (fun _ => False) rfl rfl ?aP (fun _ hk => hk.elim) ?aF ?aO ?aB ?aS ?aL ?_
        (case aP => exact rfl)
        (case aB => exact hbC)
        (case aF => exact (fun _ _ => trivial))
        (case aO => exact (rvR HO_5.out))
        (case aS => exact (below_size hbC))
        (case aL => have := LMc14.out; omega)
        intro v122 w21 ho hb hg hat
        rw [← Ny121.out] at ho
        have n0_ := Aside0.mk (blk_grown (g := gb110) (o := .cells #[.int .i64 a0_0, .slice (some ad117) l0_1.length c0_1] 28 (0, 0)) (bvK BK110.out) hg (Kd.R_ne HO_5.out BK110.out (by decide)))
        have n1_ := Aside0.mk (blk_grown (g := gb118) (o := .cells #[.int .i64 ((rd_T92 l0_1 x14_1).f0), .int .i64 ((rd_T92 l0_1 x14_1).f1)] 92 (0, 0)) (bvK BK118.out) hg (Kd.R_ne HO_5.out BK118.out (by decide)))
        have n2_ := Aside0.mk (hb)
        have n3_ := Aside0.mk (ho)
        clear BK110
        clear BK118
        clear HB
        clear HO_5
        have BK110 := n0_
        have BK118 := n1_
        have HB := n2_
        have HO123 := n3_
        clear n0_ n1_ n2_ n3_
        clear ho hb hg hat
        refine hK.out _ _ ⟨(blk_cell BK118.out 0).trans rfl, (blk_cell BK118.out 1).trans rfl⟩ (fun hHeld => ?_)
        clear hK K
        refine norm_ (a' := ?_) ?_ ?_
        rotate_left
        ·show Act.put _ (some 29) _ = _
         simp only [Act.put, List.setIfInBounds_toArray, List.set_cons_zero, List.set_cons_succ, i64_w, i32_w]
         rfl
        refine Pt.pu 12 (some 5) (Pt.bm 13 8191) (any_of HT_.out (by kernel_rfl)) ?_
        refine done_ (done_of HT_.out (by kernel_rfl)) ?_
        try go_wp2
        go_roundg k1
        case measure => have := HK1.out; omega
        case rel => exact ⟨(y121), (wrap64 (x14_1 + 1)), rsd, H', ⟨by have := HK1.out; omega⟩, ⟨rvR HO123.out⟩, ⟨bvK BK110.out⟩, ⟨hbC⟩⟩
       ·rw [if_neg c14] at H
        exact absurd H (by simp)
      ·rw [if_neg c11] at H
       exact absurd H (by simp)
     ·rw [if_neg c10] at H
      exact absurd H (by simp)
    ·rw [if_neg c9] at H
     have c9b0 : decide (x14_1 < (l0_1.length : Int)) = false := decide_eq_false c9
     clear c9
     obtain rfl := Option.some.inj H
     go_wp2
     go_ret
     exact ⟨_, ers, by (with_reducible repeat (first | apply Kd.R_alloc | apply Kd.R_drewN | apply Kd.R_drew)); exact HO_5.out, hbC⟩
 ·rw [if_neg c3] at H
  exact absurd H (by simp)

end Go.Proofs.Ytpcckoljocpchaa.QFnFixed
