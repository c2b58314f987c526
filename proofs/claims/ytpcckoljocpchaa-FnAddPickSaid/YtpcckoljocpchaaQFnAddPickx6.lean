-- Written by a program of this session (mk.py). Lean checks it.
import Derived.Test.YtpcckoljocpchaaQFnAddPickx0
import Derived.Test.YtpcckoljocpchaaQFnAddPickx5
namespace Go.Proofs.Ytpcckoljocpchaa.QFnAddPick
open Go.RowKit Go.Proofs.YtpcckoljocpchaaW.PrintWords Go.Proofs.YtpcckoljocpchaaW.PrintLast Go.Proofs.YtpcckoljocpchaaW.PrintMore
attribute [local go_sem] max2_int min2_int max_two min_two max_three min_three max_four min_four   -- for this text's walks alone
set_option linter.unusedVariables false
set_option linter.unusedSimpArgs false

/-! ### impl_CircuitValid: function 23 -/
mutual
def impl_CircuitValid.j0 : Nat → Bool → Int → List (S92) → Option (Bool)
 | 0, _, _, _ => none
 | k + 1, x15, x163000, x163001 => if x15 = true then (some false) else (impl_CircuitValid.l0 k x163001 (x163001.length : Int) 0 x163000 x163001)
def impl_CircuitValid.l0 : Nat → List (S92) → Int → Int → Int → List (S92) → Option (Bool)
 | 0, _, _, _, _, _ => none
 | k + 1, x17, x18, x19, x163000, x163001 => if x19 < x18 then (if 0 ≤ x19 then (if x19 < (x17.length : Int) then ((impl_in.f ((rd_T92 x17 x19).f0) 0 (wrap64 ((wrap64 (2 * (wrap64 ((wrap64 (1 + x163000)) + x19)))) - 1))).bind fun t166 => (if t166 = true then ((impl_in.f ((rd_T92 x17 x19).f1) 0 (wrap64 ((wrap64 (2 * (wrap64 ((wrap64 (1 + x163000)) + x19)))) - 1))).bind fun t167 => (if t167 = true then (impl_CircuitValid.l0 k x17 x18 (wrap64 (x19 + 1)) x163000 x163001) else (some false))) else (some false))) else (none)) else (none)) else (some true)
end
def impl_CircuitValid.f (k : Nat) (a0_0 : Int) (l0_1 : List (S92)) : Option (Bool) := (impl_in.f a0_0 0 12).bind fun t163 => (if t163 = true then (impl_CircuitValid.j0 k (decide ((l0_1.length : Int) > 600)) a0_0 l0_1) else (impl_CircuitValid.j0 k true a0_0 l0_1))
theorem impl_CircuitValid.mono_l : ∀ k, (∀ y0 y1 y2, LeO (impl_CircuitValid.j0 k y0 y1 y2) (impl_CircuitValid.j0 (k + 1) y0 y1 y2)) ∧ (∀ y0 y1 y2 y3 y4, LeO (impl_CircuitValid.l0 k y0 y1 y2 y3 y4) (impl_CircuitValid.l0 (k + 1) y0 y1 y2 y3 y4))
 | 0 => ⟨fun _ _ _ r h => by simp [impl_CircuitValid.j0] at h, fun _ _ _ _ _ r h => by simp [impl_CircuitValid.l0] at h⟩
 | k + 1 => by
  obtain ⟨ih0, ih1⟩ := impl_CircuitValid.mono_l k
  refine ⟨?_, ?_⟩
  ·intro y0 y1 y2
   unfold impl_CircuitValid.j0
   repeat' first
   | (with_reducible exact ih0 _ _ _)
   | (with_reducible exact ih1 _ _ _ _ _)
   | (with_reducible exact LeO.refl _)
   | (with_reducible exact LeO.none _)
   | (with_reducible refine LeO.ite ?_ ?_)
   | (with_reducible refine LeO.bind ?_ (fun _ => ?_))
   | exact ih0 _ _ _
   | exact ih1 _ _ _ _ _
   | exact LeO.none _
   | refine LeO.ite ?_ ?_
   | refine LeO.bind ?_ (fun _ => ?_)
  ·intro y0 y1 y2 y3 y4
   unfold impl_CircuitValid.l0
   repeat' first
   | (with_reducible exact ih0 _ _ _)
   | (with_reducible exact ih1 _ _ _ _ _)
   | (with_reducible exact LeO.refl _)
   | (with_reducible exact LeO.none _)
   | (with_reducible refine LeO.ite ?_ ?_)
   | (with_reducible refine LeO.bind ?_ (fun _ => ?_))
   | exact ih0 _ _ _
   | exact ih1 _ _ _ _ _
   | exact LeO.none _
   | refine LeO.ite ?_ ?_
   | refine LeO.bind ?_ (fun _ => ?_)
theorem impl_CircuitValid.mono : ∀ a0 a1 k, LeO (impl_CircuitValid.f k a0 a1) (impl_CircuitValid.f (k + 1) a0 a1) := by
 intro a0 a1 k
 obtain ⟨ih0, ih1⟩ := impl_CircuitValid.mono_l k
 unfold impl_CircuitValid.f
 repeat' first
   | (with_reducible exact ih0 _ _ _)
   | (with_reducible exact ih1 _ _ _ _ _)
   | (with_reducible exact LeO.refl _)
   | (with_reducible exact LeO.none _)
   | (with_reducible refine LeO.ite ?_ ?_)
   | (with_reducible refine LeO.bind ?_ (fun _ => ?_))
   | exact ih0 _ _ _
   | exact ih1 _ _ _ _ _
   | exact LeO.none _
   | refine LeO.ite ?_ ?_
   | refine LeO.bind ?_ (fun _ => ?_)
set_option maxHeartbeats 8000000 in
set_option maxRecDepth 100000 in
theorem impl_CircuitValid.calls (k : Nat) (a0_0 : Int) (A0_1 : Option Addr) (c0_1 : Nat) (l0_1 : List (S92)) (r : Bool) (w : World) (hr0_1 : Kd.C k92 w A0_1 l0_1.length l0_1) (hc0_1 : l0_1.length ≤ c0_1) (h : impl_CircuitValid.f k a0_0 l0_1 = some r) :
  Calls Try.prog 23 #[.agg #[.int .i64 a0_0, .slice A0_1 l0_1.length c0_1]] w fun e w' => e = .returned (.bool r) ∧ Below w.heap.size w w' := by
 have hu28 := Try.underlying28
 have hu92 := Try.underlying92
 have HR0_1 := Aside0.mk hr0_1
 have HC0_1 := Aside0.mk hc0_1
 clear hr0_1 hc0_1
 have HB := Aside0.mk (Below.refl w.heap.size w)
 have H : ((impl_in.f a0_0 0 12).bind fun t163 => (if t163 = true then (impl_CircuitValid.j0 k (decide ((l0_1.length : Int) > 600)) a0_0 l0_1) else (impl_CircuitValid.j0 k true a0_0 l0_1))) = some r := h
 clear h
 have HC2 := Aside0.mk H
 clear H
 go_enter Try.func23, Try.ntmps23
 go_upto_region 1 with (first | ((with_reducible refine gate_dst (N := 1) rfl ?_); (try (refine gate_guard (by rfl) ?_; dsimp only)); refine box_event ?hg (N := 1) ?hd (cs := #[.int .i64 a0_0, .slice A0_1 l0_1.length c0_1]) (t := 28) ?hr ?_; (case hd => rfl); (case hg => rfl); (case hr => first | (go_simp; done) | (go_simp; rfl)); intro gb162 hg w3 hbox hb; have n0_ := Aside0.mk (below_step hbB hb); have n1_ := Aside0.mk (hbox); have n2_ := Aside0.mk ((gwb hg (below_size hbB) : w.heap.size ≤ gb162)); have n3_ := n2_; clear HB; have HB := n0_; have BK162 := n1_; have GW162 := n2_; have GE162 := n3_; clear n0_ n1_ n2_ n3_; clear hb hbox hg))
 (try simp only [Act.put, List.setIfInBounds_toArray, List.set_cons_zero, List.set_cons_succ])
 go_cut [15] (fun v15 wc => ∃ (kq : Nat) (x15_1 : Bool), v15 = .bool x15_1 ∧ Aside0 (impl_CircuitValid.j0 kq x15_1 a0_0 l0_1 = some r) ∧ Aside0 (kq ≤ k) ∧ Aside0 (wc.heap[gb162]? = some (.cells #[.int .i64 a0_0, (.slice A0_1 l0_1.length c0_1)] 28 (0, 0))) ∧ Aside0 (Below w.heap.size w wc))
 case first =>
  have H := HC2.out
  clear HC2
  replace H := Option.bind_eq_some_iff.mp H
  obtain ⟨t163, A40, H⟩ := H
  replace H : (if t163 = true then (impl_CircuitValid.j0 k (decide ((l0_1.length : Int) > 600)) a0_0 l0_1) else (impl_CircuitValid.j0 k true a0_0 l0_1)) = some r := H
  have A4 := Aside0.mk A40
  clear A40
  by_cases c5 : t163 = true
  ·subst c5
   have H1 : (impl_CircuitValid.j0 k (decide ((l0_1.length : Int) > 600)) a0_0 l0_1) = some r := by rw [if_pos rfl] at H; exact H
   clear H
   have H := H1
   clear H1
   have H' := Aside0.mk H
   clear H
   have hcz6_0 : w3.cell? ⟨gb162, 0, none⟩ = some (.int .i64 a0_0) := (blk_cell BK162.out 0).trans rfl
   have hcz6_1 : w3.cell? ⟨gb162, 1, none⟩ = some (.slice A0_1 l0_1.length c0_1) := (blk_cell BK162.out 1).trans rfl
   have hfz6_0 := blk_frozen BK162.out 0
   have hfz6_1 := blk_frozen BK162.out 1
   go_wp2_with (first | ((with_reducible refine gate_callee (f := 73) rfl ?_); refine goesL_ (some 8) rfl rfl Try.func73 (by kernel_rfl) rfl #[.int .i64 a0_0, .int .i64 0, .int .i64 12] rfl lmB ?_; (with_reducible refine (impl_in.calls a0_0 0 12 true _ A4.out).mono ?_); rintro e w' ⟨rfl, ⟨nd, rfl⟩⟩; refine ⟨_, rfl, ?_⟩))
   go_meet
   case rel => exact ⟨_, (decide ((l0_1.length : Int) > 600)), rsd, H', ⟨by first | omega | exact Nat.le_refl _⟩, ⟨bvK BK162.out⟩, ⟨hbC⟩⟩
  ·replace c5 := Bool.eq_false_iff.mpr c5
   subst c5
   have H1 : (impl_CircuitValid.j0 k true a0_0 l0_1) = some r := by rw [if_neg (show ¬ (false = true) by decide)] at H; exact H
   clear H
   have H := H1
   clear H1
   have H' := Aside0.mk H
   clear H
   have hcz7_0 : w3.cell? ⟨gb162, 0, none⟩ = some (.int .i64 a0_0) := (blk_cell BK162.out 0).trans rfl
   have hcz7_1 : w3.cell? ⟨gb162, 1, none⟩ = some (.slice A0_1 l0_1.length c0_1) := (blk_cell BK162.out 1).trans rfl
   have hfz7_0 := blk_frozen BK162.out 0
   have hfz7_1 := blk_frozen BK162.out 1
   go_wp2_with (first | ((with_reducible refine gate_callee (f := 73) rfl ?_); refine goesL_ (some 8) rfl rfl Try.func73 (by kernel_rfl) rfl #[.int .i64 a0_0, .int .i64 0, .int .i64 12] rfl lmB ?_; (with_reducible refine (impl_in.calls a0_0 0 12 false _ A4.out).mono ?_); rintro e w' ⟨rfl, ⟨nd, rfl⟩⟩; refine ⟨_, rfl, ?_⟩))
   go_meet
   case rel => exact ⟨_, (true), rsd, H', ⟨by first | omega | exact Nat.le_refl _⟩, ⟨bvK BK162.out⟩, ⟨hbC⟩⟩
 case rest =>
  clear HC2
  try clear c2
  try clear p2
  try clear c5
  try clear c7
  try clear hcz6_0
  try clear hcz6_1
  try clear hcz7_0
  try clear hcz7_1
  try clear hfz6_0
  try clear hfz6_1
  try clear hfz7_0
  try clear hfz7_1
  obtain ⟨kq, x15_1, rfl, HA, HJ1, BK162, HB⟩ := hcut
  cases kq with
  | zero => exact absurd HA.out (by simp [impl_CircuitValid.j0])
  | succ kj1 =>
   have H := HA.out
   clear HA
   simp only [impl_CircuitValid.j0] at H
   by_cases c8 : x15_1 = true
   ·subst c8
    have H1 : (some false) = some r := by rw [if_pos rfl] at H; exact H
    clear H
    have H := H1
    clear H1
    obtain rfl := Option.some.inj H
    go_wp2
    go_ret
    exact ⟨ers, hbC⟩
   ·replace c8 := Bool.eq_false_iff.mpr c8
    subst c8
    have H1 : (impl_CircuitValid.l0 kj1 l0_1 (l0_1.length : Int) 0 a0_0 l0_1) = some r := by rw [if_neg (show ¬ (false = true) by decide)] at H; exact H
    clear H
    have H := H1
    clear H1
    have H' := Aside0.mk H
    clear H
    have hcz9_0 : wc.cell? ⟨gb162, 0, none⟩ = some (.int .i64 a0_0) := (blk_cell BK162.out 0).trans rfl
    have hcz9_1 : wc.cell? ⟨gb162, 1, none⟩ = some (.slice A0_1 l0_1.length c0_1) := (blk_cell BK162.out 1).trans rfl
    have hfz9_0 := blk_frozen BK162.out 0
    have hfz9_1 := blk_frozen BK162.out 1
    go_wp2
    go_loopg [19] kj1 (fun kq v19 w' => ∃ (x19_2 : Int), v19 = .int .i64 x19_2 ∧ Aside0 (impl_CircuitValid.l0 kq l0_1 (l0_1.length : Int) x19_2 a0_0 l0_1 = some r) ∧ Aside0 (kq ≤ kj1) ∧ Aside0 (w'.heap[gb162]? = some (.cells #[.int .i64 a0_0, (.slice A0_1 l0_1.length c0_1)] 28 (0, 0))) ∧ Aside0 (Below w.heap.size w w'))
    case atStart => exact ⟨(0), rsd, H', ⟨Nat.le_refl _⟩, ⟨bvK BK162.out⟩, ⟨hbC⟩⟩
    case round =>
     clear H'
     try clear c2
     try clear p2
     try clear c5
     try clear c7
     try clear c8
     try clear hcz6_0
     try clear hcz6_1
     try clear hcz7_0
     try clear hcz7_1
     try clear hcz9_0
     try clear hcz9_1
     try clear hfz6_0
     try clear hfz6_1
     try clear hfz7_0
     try clear hfz7_1
     try clear hfz9_0
     try clear hfz9_1
     try clear p2
     obtain ⟨x19_2, rfl, HA, HK2, BK162, HB⟩ := hrel
     cases gk with
     | zero => exact absurd HA.out (by simp [impl_CircuitValid.l0])
     | succ k2 =>
      have H := HA.out
      clear HA
      simp only [impl_CircuitValid.l0] at H
      by_cases c10 : x19_2 < (l0_1.length : Int)
      ·rw [if_pos c10] at H
       have c10b0 : decide (x19_2 < (l0_1.length : Int)) = true := decide_eq_true c10
       clear c10
       by_cases c11 : 0 ≤ x19_2
       ·rw [if_pos c11] at H
        have c11b0 : decide (0 ≤ x19_2) = true := decide_eq_true c11
        clear c11
        by_cases c12 : x19_2 < (l0_1.length : Int)
        ·rw [if_pos c12] at H
         have c12b0 : decide (x19_2 < (l0_1.length : Int)) = true := decide_eq_true c12
         clear c12
         replace H := Option.bind_eq_some_iff.mp H
         obtain ⟨t166, A130, H⟩ := H
         replace H : (if t166 = true then ((impl_in.f ((rd_T92 l0_1 x19_2).f1) 0 (wrap64 ((wrap64 (2 * (wrap64 ((wrap64 (1 + a0_0)) + x19_2)))) - 1))).bind fun t167 => (if t167 = true then (impl_CircuitValid.l0 k2 l0_1 (l0_1.length : Int) (wrap64 (x19_2 + 1)) a0_0 l0_1) else (some false))) else (some false)) = some r := H
         have A13 := Aside0.mk A130
         clear A130
         by_cases c14 : t166 = true
         ·subst c14
          have H1 : ((impl_in.f ((rd_T92 l0_1 x19_2).f1) 0 (wrap64 ((wrap64 (2 * (wrap64 ((wrap64 (1 + a0_0)) + x19_2)))) - 1))).bind fun t167 => (if t167 = true then (impl_CircuitValid.l0 k2 l0_1 (l0_1.length : Int) (wrap64 (x19_2 + 1)) a0_0 l0_1) else (some false))) = some r := by rw [if_pos rfl] at H; exact H
          clear H
          have H := H1
          clear H1
          replace H := Option.bind_eq_some_iff.mp H
          obtain ⟨t167, A150, H⟩ := H
          replace H : (if t167 = true then (impl_CircuitValid.l0 k2 l0_1 (l0_1.length : Int) (wrap64 (x19_2 + 1)) a0_0 l0_1) else (some false)) = some r := H
          have A15 := Aside0.mk A150
          clear A150
          by_cases c16 : t167 = true
          ·subst c16
           have H1 : (impl_CircuitValid.l0 k2 l0_1 (l0_1.length : Int) (wrap64 (x19_2 + 1)) a0_0 l0_1) = some r := by rw [if_pos rfl] at H; exact H
           clear H
           have H := H1
           clear H1
           have H' := Aside0.mk H
           clear H
           have p164 : 0 ≤ (x19_2 : Int) := oda
           have q164 : x19_2 < (l0_1.length : Int) := oda
           obtain ⟨ad164, e164, hx164_0, hx164_1⟩ := at_T92 HR0_1.out x19_2 p164 q164
           cases e164
           try replace hx164_0 := bct HB.out hx164_0
           try replace hx164_1 := bct HB.out hx164_1
           replace p164 := eq_true p164
           replace q164 := eq_true q164
           go_wp2_with (first | ((with_reducible refine gate_dst (N := 4) rfl ?_); (try (refine gate_guard (by rfl) ?_; dsimp only)); refine box_event ?hg (N := 4) ?hd (cs := #[.int .i64 0, .int .i64 0]) (t := 92) ?hr ?_; (case hd => rfl); (case hg => rfl); (case hr => first | (go_simp; done) | (go_simp; rfl)); intro gb165 hg w17 hbox hb; have n0_ := Aside0.mk (blk_below (g := gb162) (o := .cells #[.int .i64 a0_0, .slice (some ad164) l0_1.length c0_1] 28 (0, 0)) (bvK BK162.out) hb); have n1_ := Aside0.mk (below_step hbC hb); have n2_ := Aside0.mk (hbox); have n3_ := Aside0.mk ((gwb hg (below_size hbC) : w.heap.size ≤ gb165)); have n4_ := n3_; have n5_ := Aside0.mk ((by rw [hg]; exact Nat.ne_of_lt (blk_lt (g := gb162) (o := .cells #[.int .i64 a0_0, .slice (some ad164) l0_1.length c0_1] 28 (0, 0)) (bvK BK162.out)) : gb162 ≠ gb165)); have n6_ := Aside0.mk ((by rw [hg]; exact Nat.ne_of_gt (blk_lt (g := gb162) (o := .cells #[.int .i64 a0_0, .slice (some ad164) l0_1.length c0_1] 28 (0, 0)) (bvK BK162.out)) : gb165 ≠ gb162)); clear BK162; clear HB; have BK162 := n0_; have HB := n1_; have BK165 := n2_; have GW165 := n3_; have GE165 := n4_; have NB162_165 := n5_; have NB165_162 := n6_; clear n0_ n1_ n2_ n3_ n4_ n5_ n6_; clear hb hbox hg; have hnb18 := NB165_162.out; have hnc18 := NB162_165.out; have hcz19_0 : w17.cell? ⟨gb165, 0, none⟩ = some (.int .i64 0) := (blk_cell BK165.out 0).trans rfl; have hcz19_1 : w17.cell? ⟨gb165, 1, none⟩ = some (.int .i64 0) := (blk_cell BK165.out 1).trans rfl; have hfz19_0 := blk_frozen BK165.out 0; have hfz19_1 := blk_frozen BK165.out 1; have hcz20_0 : w17.cell? ⟨gb162, 0, none⟩ = some (.int .i64 a0_0) := (blk_cell BK162.out 0).trans rfl; have hcz20_1 : w17.cell? ⟨gb162, 1, none⟩ = some (.slice (some ad164) l0_1.length c0_1) := (blk_cell BK162.out 1).trans rfl; have hfz20_0 := blk_frozen BK162.out 0; have hfz20_1 := blk_frozen BK162.out 1) | ((with_reducible refine gate_callee (f := 73) rfl ?_); refine goesL_ (some 34) rfl rfl Try.func73 (by kernel_rfl) rfl #[.int .i64 ((rd_T92 l0_1 x19_2).f0), .int .i64 0, .int .i64 (wrap64 ((wrap64 (2 * (wrap64 ((wrap64 (1 + a0_0)) + x19_2)))) - 1))] rfl lmB ?_; (with_reducible refine (impl_in.calls ((rd_T92 l0_1 x19_2).f0) 0 (wrap64 ((wrap64 (2 * (wrap64 ((wrap64 (1 + a0_0)) + x19_2)))) - 1)) true _ A13.out).mono ?_); rintro e w' ⟨rfl, ⟨nd, rfl⟩⟩; refine ⟨_, rfl, ?_⟩) | (go_at_call 73; (with_reducible refine (impl_in.calls ((rd_T92 l0_1 x19_2).f1) 0 (wrap64 ((wrap64 (2 * (wrap64 ((wrap64 (1 + a0_0)) + x19_2)))) - 1)) true _ A15.out).mono ?_); rintro e w' ⟨rfl, ⟨nd, rfl⟩⟩))
           go_roundg k2
           case measure => have := HJ1.out; have := HK2.out; omega
           case rel => exact ⟨(wrap64 (x19_2 + 1)), rsd, H', ⟨by have := HJ1.out; have := HK2.out; omega⟩, ⟨by (with_reducible repeat (first | refine blk_drewN ?_ _ | refine blk_drew ?_ | refine blk_alloc ?_ _)); refine blk_far ?_ NB162_165.out _; (with_reducible repeat (first | refine blk_drewN ?_ _ | refine blk_drew ?_ | refine blk_alloc ?_ _)); refine blk_far ?_ NB162_165.out _; (with_reducible repeat (first | refine blk_drewN ?_ _ | refine blk_drew ?_ | refine blk_alloc ?_ _)); exact BK162.out⟩, ⟨hbC⟩⟩
          ·replace c16 := Bool.eq_false_iff.mpr c16
           subst c16
           have H1 : (some false) = some r := by rw [if_neg (show ¬ (false = true) by decide)] at H; exact H
           clear H
           have H := H1
           clear H1
           obtain rfl := Option.some.inj H
           have p164 : 0 ≤ (x19_2 : Int) := oda
           have q164 : x19_2 < (l0_1.length : Int) := oda
           obtain ⟨ad164, e164, hx164_0, hx164_1⟩ := at_T92 HR0_1.out x19_2 p164 q164
           cases e164
           try replace hx164_0 := bct HB.out hx164_0
           try replace hx164_1 := bct HB.out hx164_1
           replace p164 := eq_true p164
           replace q164 := eq_true q164
           go_wp2_with (first | ((with_reducible refine gate_dst (N := 4) rfl ?_); (try (refine gate_guard (by rfl) ?_; dsimp only)); refine box_event ?hg (N := 4) ?hd (cs := #[.int .i64 0, .int .i64 0]) (t := 92) ?hr ?_; (case hd => rfl); (case hg => rfl); (case hr => first | (go_simp; done) | (go_simp; rfl)); intro gb165 hg w21 hbox hb; have n0_ := Aside0.mk (blk_below (g := gb162) (o := .cells #[.int .i64 a0_0, .slice (some ad164) l0_1.length c0_1] 28 (0, 0)) (bvK BK162.out) hb); have n1_ := Aside0.mk (below_step hbC hb); have n2_ := Aside0.mk (hbox); have n3_ := Aside0.mk ((gwb hg (below_size hbC) : w.heap.size ≤ gb165)); have n4_ := n3_; have n5_ := Aside0.mk ((by rw [hg]; exact Nat.ne_of_lt (blk_lt (g := gb162) (o := .cells #[.int .i64 a0_0, .slice (some ad164) l0_1.length c0_1] 28 (0, 0)) (bvK BK162.out)) : gb162 ≠ gb165)); have n6_ := Aside0.mk ((by rw [hg]; exact Nat.ne_of_gt (blk_lt (g := gb162) (o := .cells #[.int .i64 a0_0, .slice (some ad164) l0_1.length c0_1] 28 (0, 0)) (bvK BK162.out)) : gb165 ≠ gb162)); clear BK162; clear HB; have BK162 := n0_; have HB := n1_; have BK165 := n2_; have GW165 := n3_; have GE165 := n4_; have NB162_165 := n5_; have NB165_162 := n6_; clear n0_ n1_ n2_ n3_ n4_ n5_ n6_; clear hb hbox hg; have hnb22 := NB165_162.out; have hnc22 := NB162_165.out; have hcz23_0 : w21.cell? ⟨gb165, 0, none⟩ = some (.int .i64 0) := (blk_cell BK165.out 0).trans rfl; have hcz23_1 : w21.cell? ⟨gb165, 1, none⟩ = some (.int .i64 0) := (blk_cell BK165.out 1).trans rfl; have hfz23_0 := blk_frozen BK165.out 0; have hfz23_1 := blk_frozen BK165.out 1; have hcz24_0 : w21.cell? ⟨gb162, 0, none⟩ = some (.int .i64 a0_0) := (blk_cell BK162.out 0).trans rfl; have hcz24_1 : w21.cell? ⟨gb162, 1, none⟩ = some (.slice (some ad164) l0_1.length c0_1) := (blk_cell BK162.out 1).trans rfl; have hfz24_0 := blk_frozen BK162.out 0; have hfz24_1 := blk_frozen BK162.out 1) | ((with_reducible refine gate_callee (f := 73) rfl ?_); refine goesL_ (some 34) rfl rfl Try.func73 (by kernel_rfl) rfl #[.int .i64 ((rd_T92 l0_1 x19_2).f0), .int .i64 0, .int .i64 (wrap64 ((wrap64 (2 * (wrap64 ((wrap64 (1 + a0_0)) + x19_2)))) - 1))] rfl lmB ?_; (with_reducible refine (impl_in.calls ((rd_T92 l0_1 x19_2).f0) 0 (wrap64 ((wrap64 (2 * (wrap64 ((wrap64 (1 + a0_0)) + x19_2)))) - 1)) true _ A13.out).mono ?_); rintro e w' ⟨rfl, ⟨nd, rfl⟩⟩; refine ⟨_, rfl, ?_⟩) | (go_at_call 73; (with_reducible refine (impl_in.calls ((rd_T92 l0_1 x19_2).f1) 0 (wrap64 ((wrap64 (2 * (wrap64 ((wrap64 (1 + a0_0)) + x19_2)))) - 1)) false _ A15.out).mono ?_); rintro e w' ⟨rfl, ⟨nd, rfl⟩⟩))
           go_ret
           exact ⟨ers, hbC⟩
         ·replace c14 := Bool.eq_false_iff.mpr c14
          subst c14
          have H1 : (some false) = some r := by rw [if_neg (show ¬ (false = true) by decide)] at H; exact H
          clear H
          have H := H1
          clear H1
          obtain rfl := Option.some.inj H
          have p164 : 0 ≤ (x19_2 : Int) := oda
          have q164 : x19_2 < (l0_1.length : Int) := oda
          obtain ⟨ad164, e164, hx164_0, hx164_1⟩ := at_T92 HR0_1.out x19_2 p164 q164
          cases e164
          try replace hx164_0 := bct HB.out hx164_0
          try replace hx164_1 := bct HB.out hx164_1
          replace p164 := eq_true p164
          replace q164 := eq_true q164
          go_wp2_with (first | ((with_reducible refine gate_dst (N := 4) rfl ?_); (try (refine gate_guard (by rfl) ?_; dsimp only)); refine box_event ?hg (N := 4) ?hd (cs := #[.int .i64 0, .int .i64 0]) (t := 92) ?hr ?_; (case hd => rfl); (case hg => rfl); (case hr => first | (go_simp; done) | (go_simp; rfl)); intro gb165 hg w25 hbox hb; have n0_ := Aside0.mk (blk_below (g := gb162) (o := .cells #[.int .i64 a0_0, .slice (some ad164) l0_1.length c0_1] 28 (0, 0)) (bvK BK162.out) hb); have n1_ := Aside0.mk (below_step hbC hb); have n2_ := Aside0.mk (hbox); have n3_ := Aside0.mk ((gwb hg (below_size hbC) : w.heap.size ≤ gb165)); have n4_ := n3_; have n5_ := Aside0.mk ((by rw [hg]; exact Nat.ne_of_lt (blk_lt (g := gb162) (o := .cells #[.int .i64 a0_0, .slice (some ad164) l0_1.length c0_1] 28 (0, 0)) (bvK BK162.out)) : gb162 ≠ gb165)); have n6_ := Aside0.mk ((by rw [hg]; exact Nat.ne_of_gt (blk_lt (g := gb162) (o := .cells #[.int .i64 a0_0, .slice (some ad164) l0_1.length c0_1] 28 (0, 0)) (bvK BK162.out)) : gb165 ≠ gb162)); clear BK162; clear HB; have BK162 := n0_; have HB := n1_; have BK165 := n2_; have GW165 := n3_; have GE165 := n4_; have NB162_165 := n5_; have NB165_162 := n6_; clear n0_ n1_ n2_ n3_ n4_ n5_ n6_; clear hb hbox hg; have hnb26 := NB165_162.out; have hnc26 := NB162_165.out; have hcz27_0 : w25.cell? ⟨gb165, 0, none⟩ = some (.int .i64 0) := (blk_cell BK165.out 0).trans rfl; have hcz27_1 : w25.cell? ⟨gb165, 1, none⟩ = some (.int .i64 0) := (blk_cell BK165.out 1).trans rfl; have hfz27_0 := blk_frozen BK165.out 0; have hfz27_1 := blk_frozen BK165.out 1; have hcz28_0 : w25.cell? ⟨gb162, 0, none⟩ = some (.int .i64 a0_0) := (blk_cell BK162.out 0).trans rfl; have hcz28_1 : w25.cell? ⟨gb162, 1, none⟩ = some (.slice (some ad164) l0_1.length c0_1) := (blk_cell BK162.out 1).trans rfl; have hfz28_0 := blk_frozen BK162.out 0; have hfz28_1 := blk_frozen BK162.out 1) | ((with_reducible refine gate_callee (f := 73) rfl ?_); refine goesL_ (some 34) rfl rfl Try.func73 (by kernel_rfl) rfl #[.int .i64 ((rd_T92 l0_1 x19_2).f0), .int .i64 0, .int .i64 (wrap64 ((wrap64 (2 * (wrap64 ((wrap64 (1 + a0_0)) + x19_2)))) - 1))] rfl lmB ?_; (with_reducible refine (impl_in.calls ((rd_T92 l0_1 x19_2).f0) 0 (wrap64 ((wrap64 (2 * (wrap64 ((wrap64 (1 + a0_0)) + x19_2)))) - 1)) false _ A13.out).mono ?_); rintro e w' ⟨rfl, ⟨nd, rfl⟩⟩; refine ⟨_, rfl, ?_⟩))
          go_ret
          exact ⟨ers, hbC⟩
        ·rw [if_neg c12] at H
         exact absurd H (by simp)
       ·rw [if_neg c11] at H
        exact absurd H (by simp)
      ·rw [if_neg c10] at H
       have c10b0 : decide (x19_2 < (l0_1.length : Int)) = false := decide_eq_false c10
       clear c10
       obtain rfl := Option.some.inj H
       go_wp2
       go_ret
       exact ⟨ers, hbC⟩

/-! ### impl_Circuit_isEdge: function 59 -/
def impl_Circuit_isEdge.f (a0_0 : Int) (l0_1 : List (S92)) (a1 : Int) : Option (Bool) := (impl_in.f a1 0 (wrap64 ((wrap64 (2 * (wrap64 ((wrap64 (1 + a0_0)) + (l0_1.length : Int))))) - 1))).bind fun t169 => (some t169)
set_option maxHeartbeats 8000000 in
set_option maxRecDepth 100000 in
theorem impl_Circuit_isEdge.calls (a0_0 : Int) (A0_1 : Option Addr) (c0_1 : Nat) (l0_1 : List (S92)) (a1 : Int) (r : Bool) (w : World) (hr0_1 : Kd.C k92 w A0_1 l0_1.length l0_1) (hc0_1 : l0_1.length ≤ c0_1) (h : impl_Circuit_isEdge.f a0_0 l0_1 a1 = some r) :
  Calls Try.prog 59 #[.agg #[.int .i64 a0_0, .slice A0_1 l0_1.length c0_1], .int .i64 a1] w fun e w' => e = .returned (.bool r) ∧ Below w.heap.size w w' := by
 have hu28 := Try.underlying28
 have HR0_1 := Aside0.mk hr0_1
 have HC0_1 := Aside0.mk hc0_1
 clear hr0_1 hc0_1
 have HB := Aside0.mk (Below.refl w.heap.size w)
 have H : ((impl_in.f a1 0 (wrap64 ((wrap64 (2 * (wrap64 ((wrap64 (1 + a0_0)) + (l0_1.length : Int))))) - 1))).bind fun t169 => (some t169)) = some r := h
 clear h
 replace H := Option.bind_eq_some_iff.mp H
 obtain ⟨t169, A30, H⟩ := H
 replace H : (some t169) = some r := H
 have A3 := Aside0.mk A30
 clear A30
 obtain rfl := Option.some.inj H
 go_enter Try.func59, Try.ntmps59
 go_wp2_with (first | ((with_reducible refine gate_dst (N := 2) rfl ?_); refine box_event ?hg (N := 2) ?hd (cs := #[.int .i64 a0_0, .slice A0_1 l0_1.length c0_1]) (t := 28) ?hr ?_; (case hd => rfl); (case hg => rfl); (case hr => first | (go_simp; done) | (go_simp; rfl)); intro gb168 hg w4 hbox hb; have n0_ := Aside0.mk (below_step hbB hb); have n1_ := Aside0.mk (hbox); have n2_ := Aside0.mk ((gwb hg (below_size hbB) : w.heap.size ≤ gb168)); have n3_ := n2_; clear HB; have HB := n0_; have BK168 := n1_; have GW168 := n2_; have GE168 := n3_; clear n0_ n1_ n2_ n3_; clear hb hbox hg; have hcz5_0 : w4.cell? ⟨gb168, 0, none⟩ = some (.int .i64 a0_0) := (blk_cell BK168.out 0).trans rfl; have hcz5_1 : w4.cell? ⟨gb168, 1, none⟩ = some (.slice A0_1 l0_1.length c0_1) := (blk_cell BK168.out 1).trans rfl; have hfz5_0 := blk_frozen BK168.out 0; have hfz5_1 := blk_frozen BK168.out 1) | ((with_reducible refine gate_callee (f := 73) rfl ?_); refine goesL_ (some 15) rfl rfl Try.func73 (by kernel_rfl) rfl #[.int .i64 a1, .int .i64 0, .int .i64 (wrap64 ((wrap64 (2 * (wrap64 ((wrap64 (1 + a0_0)) + (l0_1.length : Int))))) - 1))] rfl lmB ?_; (with_reducible refine (impl_in.calls a1 0 (wrap64 ((wrap64 (2 * (wrap64 ((wrap64 (1 + a0_0)) + (l0_1.length : Int))))) - 1)) t169 _ A3.out).mono ?_); rintro e w' ⟨rfl, ⟨nd, rfl⟩⟩; refine ⟨_, rfl, ?_⟩))
 go_ret
 exact ⟨ers, hbC⟩

/-! ### impl_And_108: function 108 -/
def impl_And_108.f (l0 : List (S92)) : Option ((List (S92))) := (some (([] : List (S92)) : List (S92))).bind fun y170 => (if y170.length + l0.length < 8796093022208 then (some (y170 ++ l0)) else (none))
set_option maxHeartbeats 8000000 in
set_option maxRecDepth 100000 in
theorem impl_And_108.calls_s (Ad0 : Addr) (c0 : Nat) (l0 : List (S92)) (r : List (S92)) (w : World) (hr0 : Kd.C k92 w (some Ad0) l0.length l0) (hc0 : l0.length ≤ c0) (h : impl_And_108.f l0 = some r) :
  Calls Try.prog 108 #[.slice (some Ad0) l0.length c0] w fun e w' => ∃ v0_ : Value, e = .returned (v0_) ∧ Kd.R k92 92 w' w.heap.size (fun _ => True) v0_ r ∧ Below w.heap.size w w' := by
 have HR0 := Aside0.mk hr0
 have HC0 := Aside0.mk hc0
 clear hr0 hc0
 have HB := Aside0.mk (Below.refl w.heap.size w)
 have H : ((some (([] : List (S92)) : List (S92))).bind fun y170 => (if y170.length + l0.length < 8796093022208 then (some (y170 ++ l0)) else (none))) = some r := h
 clear h
 obtain ⟨y170, hy170⟩ : ∃ y_ : List (S92), y_ = (([] : List (S92))) := ⟨_, rfl⟩
 replace H : (if y170.length + l0.length < 8796093022208 then (some (y170 ++ l0)) else (none)) = some r := by first | (rw [hy170]; with_reducible exact H) | (have H2_ := (Option.bind_some _ _).symm.trans H; rw [hy170]; with_reducible exact H2_) | (have H2_ := (Option.bind_some _ _).symm.trans H; with_reducible exact H2_) | with_reducible exact H | (rw [hy170]; exact H) | exact H
 have Ny170 := Aside0.mk hy170
 clear hy170
 by_cases c2 : y170.length + l0.length < 8796093022208
 ·rw [if_pos c2] at H
  have LMc2 := Aside0.mk c2
  clear c2
  obtain ⟨y173, hy173⟩ : ∃ y_ : List (S92), y_ = (y170 ++ l0) := ⟨_, rfl⟩
  replace H : (some y173) = some r := by first | (rw [hy173]; with_reducible exact H) | (have H2_ := (Option.bind_some _ _).symm.trans H; rw [hy173]; with_reducible exact H2_) | (have H2_ := (Option.bind_some _ _).symm.trans H; with_reducible exact H2_) | with_reducible exact H | (rw [hy173]; exact H) | exact H
  have Ny173 := Aside0.mk hy173
  clear hy173
  obtain rfl := Option.some.inj H
  have hun_ := fun (w_ : World) (A_ : Option Addr) (n_ c_ : Nat) => Copy.eql_nil (P := Try.prog) w_ 26 _ A_ n_ c_ Try.underlying26
  go_enter Try.func108, Try.ntmps108
  go_wp2_with (first | ((with_reducible refine gate_dst (N := 5) rfl ?_); refine Kd.R_lit k92 _ 92 ?hg (N := 5) ?hd (xs := ([] : List (S92))) (inner := []) (ok := fun _ => True) (okp := fun _ => True) ?hr ?hp (fun _ hk => hk) trivial (Below.refl _ _) (Nat.le_refl _) (by simp) ?_; (case hd => rfl); (case hg => rfl); (case hr => first | (go_simp; done) | (go_simp; rfl)); (case hp => exact (Reps.none _ _)); intro v171 w3 ho4 hb hg_ hnew_; clear hg_ hnew_; (first | rw [← Ny170.out] at ho4 | (simp only [Int.reduceToNat] at ho4; rw [← Ny170.out] at ho4)); have n0_ := Aside0.mk (Kd.R_lower ho4 (below_size hbB)); have n1_ := Aside0.mk (below_step hbB hb); clear HB; have HO172 := n0_; have HB := n1_; clear n0_ n1_; clear hb ho4) | ((with_reducible refine gate_builtin (b := .append) (xs := #[.tmp 5, .tmp 6]) rfl ?_); at_builtin; refine Kd.R_append_rows k92 (w0 := w) w.heap.size rfl (.tmp 5) (.tmp 6) 26 92 (.agg #[(.int .i64 0), (.int .i64 0)]) 16 rfl Try.underlying26 info92 rfl (by decide) (by omega) v171 y170 l0 _ _ _ (fun _ => True) (fun _ => False) rfl rfl ?aO ?aR (fun _ _ h => h) (fun _ h => h.elim) ?aF ?aB ?aS ?aL ?_; (case aR => repeat (first | exact (Kd.C_below HR0.out HB.out) | (with_reducible refine Kd.C_alloc ?_ _) | (with_reducible refine Kd.C_drewN ?_ _) | (with_reducible refine Kd.C_drew ?_))); (case aB => exact hbB); (case aF => exact (fun _ _ => trivial)); (case aO => exact (rvR HO172.out)); (case aS => exact (below_size hbB)); (case aL => have := LMc2.out; omega); intro v174 w5 ho hb hg hat; rw [← Ny173.out] at ho; have n0_ := Aside0.mk (hb); have n1_ := Aside0.mk (ho); clear HB; clear HO172; have HB := n0_; have HO175 := n1_; clear n0_ n1_; clear ho hb hg hat))
  go_ret
  exact ⟨_, ers, by (with_reducible repeat (first | apply Kd.R_alloc | apply Kd.R_drewN | apply Kd.R_drew)); exact HO175.out, hbB⟩
 ·rw [if_neg c2] at H
  exact absurd H (by simp)
set_option maxHeartbeats 8000000 in
set_option maxRecDepth 100000 in
theorem impl_And_108.calls (A0 : Option Addr) (c0 : Nat) (l0 : List (S92)) (r : List (S92)) (w : World) (hr0 : Kd.C k92 w A0 l0.length l0) (hc0 : l0.length ≤ c0) (h : impl_And_108.f l0 = some r) :
  Calls Try.prog 108 #[.slice A0 l0.length c0] w fun e w' => ∃ v0_ : Value, e = .returned (v0_) ∧ Kd.R k92 92 w' w.heap.size (fun _ => True) v0_ r ∧ Below w.heap.size w w' := by
 cases A0 with
 | some ad => exact impl_And_108.calls_s ad c0 l0 r w hr0 hc0 h
 | none =>
  have hl : l0 = [] := by
   have h_ := hr0
   cases l0 with
   | nil => rfl
   | cons x_ xs_ => obtain ⟨ad, e_, _⟩ := h_.2.2 (by simp); cases e_
  subst hl
  have hr_ : [] = r := Option.some.inj ((show impl_And_108.f [] = some [] by unfold impl_And_108.f; simp).symm.trans h)
  subst hr_
  clear hc0
  clear h hr0
  have hun_ := fun (w_ : World) (A_ : Option Addr) (n_ c_ : Nat) => Copy.eql_nil (P := Try.prog) w_ 26 _ A_ n_ c_ Try.underlying26
  go_enter Try.func108, Try.ntmps108
  go_wp2
  go_ret
  exact ⟨_, rfl, by first | exact Kd.R_nil _ _ _ _ _ | exact Kd.N_nil _ _ _ _ _, Below.refl _ _⟩

/-! ### impl_building: function 60 -/
/-! #### A circuit that grows: the state behind a pointer -/
instance : DecidableEq S92 := fun a b => decidable_of_iff (a.f0 = b.f0 ∧ a.f1 = b.f1) (by cases a; cases b; simp)
/-- Numbers that a key may hold. -/
def KeyI (n : Int) : Prop := 0 ≤ n ∧ n ≤ 9223372036854775807
instance (n : Int) : Decidable (KeyI n) := inferInstanceAs (Decidable (_ ∧ _))
theorem KeyI.wf {n : Int} (h : KeyI n) : (Lit.int .i64 n).wf = true := by
 obtain ⟨h0, h1⟩ := h
 simp [Lit.wf, IntKind.min, IntKind.max, IntKind.signed, IntKind.bits]
 omega
def ekA (x : S92) : Value := .agg #[.int .i64 x.f0, .int .i64 x.f1]
def okA (x : S92) : Prop := KeyI x.f0 ∧ KeyI x.f1
instance (x : S92) : Decidable (okA x) := inferInstanceAs (Decidable (_ ∧ _))
theorem lits_int (n : Nat) (y : Int) (h : KeyI y) : Try.prog.keyLits (n + 1) 3 [.int .i64 y] = some [.int .i64 y] := by
 have hu3 := Try.underlying3
 unfold Program.keyLits
 simp only [hu3]
 rw [if_pos ⟨trivial, h.wf⟩]
theorem types_two : ∃ n, Try.prog.types.size + 1 = n + 2 := ⟨Try.prog.types.size - 1, by have : 1 ≤ Try.prog.types.size := of_decide_eq_true (by kernel_rfl); omega⟩
theorem keyA : Mp.Key Try.prog 92 ekA okA where
 law := Maps.Keyed.of_law (deep_law_laid (m := 2) (by kernel_rfl) (by decide) (of_decide_eq_true (by kernel_rfl)) (by kernel_rfl) (by kernel_rfl))
 reads := by
  rintro x ⟨h0, h1⟩
  have hk : Try.prog.keyType 92 = true := by kernel_rfl
  have hc : Try.prog.cellsOf 92 = 2 := by kernel_rfl
  have hc3 : Try.prog.cellsOf 3 = 1 := by kernel_rfl
  have hu := Try.underlying92
  obtain ⟨n, hn⟩ := types_two
  have hform : (Value.agg #[.int .i64 x.f0, .int .i64 x.f1]).formed Try.prog 92 = true := by simp [Value.formed, hu, hc]
  have hl : Try.prog.keyLits (n + 2) 92 [.int .i64 x.f0, .int .i64 x.f1] = some [.int .i64 x.f0, .int .i64 x.f1] := by
   unfold Program.keyLits
   simp only [hu, hc]
   rw [if_pos ⟨rfl, by kernel_rfl⟩]
   simp [hc3, lits_int _ _ h0, lits_int _ _ h1]
  refine ⟨.string (keyBytes [.int .i64 x.f0, .int .i64 x.f1]), ?_⟩
  unfold keyOf ekA
  simp only [hu]
  rw [if_pos (by rw [hk, hform]; rfl)]
  show (Try.prog.keyLits (Try.prog.types.size + 1) 92 [.int .i64 x.f0, .int .i64 x.f1]).map _ = _
  rw [hn, hl]
  rfl
 inj := by
  rintro ⟨a, b⟩ ⟨d, e⟩ _ _ h
  simp [ekA] at h
  obtain ⟨rfl, rfl⟩ := h
  rfl
/-- What a circuit that grows holds: its inputs, its gates, where each gate stands, whether it is too great. -/
structure BS where
 inputs : Int
 gates : List S92
 seen : S92 → Option Int
 full : Bool
def IsB (w : World) (base : Nat) (ok : Nat → Prop) (g : Nat) (s : BS) : Prop :=
 ∃ (v : Value) (b1 : Nat), w.heap[g]? = some (.cells #[.int .i64 s.inputs, v, .map (some b1), .bool s.full] 117 (0, 0)) ∧ Kd.R k92 92 w base ok v s.gates ∧
  Mp.Is ekA okA (Value.int .i64) w b1 s.seen ∧ ok g ∧ ok b1 ∧ base ≤ g ∧ base ≤ b1
theorem IsB.step {w w1 : World} {base : Nat} {ok : Nat → Prop} {g : Nat} {s : BS} (h : IsB w base ok g s) (hm : ∀ k, ok k → k < w.heap.size → w1.heap[k]? = w.heap[k]?) : IsB w1 base ok g s := by
 obtain ⟨v, b1, h1, h2, h3, h6, h7, h9⟩ := h
 exact ⟨v, b1, (hm g h6 (blk_lt h1)).trans h1, Kd.R_step h2 hm, h3.move (hm b1 h7 h3.lt), h6, h7, h9⟩
theorem IsB.below {w w1 : World} {base : Nat} {ok : Nat → Prop} {g : Nat} {s : BS} (h : IsB w base ok g s) (hb : Below w.heap.size w w1) : IsB w1 base ok g s := h.step (fun k _ hk => hb.block k hk)
theorem IsB.drewN {w : World} {base : Nat} {ok : Nat → Prop} {g : Nat} {s : BS} (h : IsB w base ok g s) (n : Nat) : IsB (w.drewN n) base ok g s := h.step (fun _ _ _ => rfl)
theorem IsB.mono {w : World} {base : Nat} {ok ok' : Nat → Prop} {g : Nat} {s : BS} (h : IsB w base ok g s) (hk : ∀ k, ok k → ok' k) : IsB w base ok' g s := by
 obtain ⟨v, b1, h1, h2, h3, h6, h7, h9⟩ := h
 exact ⟨v, b1, h1, Kd.R_mono h2 hk, h3, hk _ h6, hk _ h7, h9⟩
theorem zero_int : ∀ w : World, (zeroValue 3).run Try.prog w = .ok (.int .i64 0) w := fun w => by
 have h : (Try.prog.info? 3).map (fun i => i.zero) = some (some (.int .i64 0)) := by kernel_rfl
 unfold zeroValue typeInfo
 obtain ⟨i, hi, hz⟩ := Option.map_eq_some_iff.1 h
 simp [hi, hz]
theorem Kd.R_map {α K V : Type} {d : Kd α} {e base b : Nat} {ok : Nat → Prop} {w w1 : World} {v : Value} {xs : List α} (h : d.R e w base ok v xs) {ek : K → Value} {okk : K → Prop} {ev : V → Value} {f : K → Option V} (hM : Mp.Is ek okk ev w b f) (hg : w.grownBy w1 (some b)) : d.R e w1 base ok v xs :=
 Kd.R_mono (Kd.R_grown (Kd.R_bound h) hg (fun k hk e_ => by
  obtain ⟨_, _, _, q, _, cells, hc⟩ := hk
  cases e_
  obtain ⟨_, _, q, _⟩ := hM
  rw [hc] at q
  cases q)) (fun _ hk => hk.1)
theorem k92_E0 : k92.E = [] := rfl
theorem IsB.over {w w1 : World} {base base2 : Nat} {ok ok2 : Nat → Prop} {g : Nat} {s : BS} {v2 : Value} {xs : List Int} (h : IsB w base ok g s) (hT : Kd.R (Kd.int .i64) 3 w base2 ok2 v2 xs) (hg : w.grownBy w1 v2.ownBlock) : IsB w1 base ok g s := by
 obtain ⟨v, b1, h1, h2, h3, h6, h7, h9⟩ := h
 exact ⟨v, b1, blk_grown h1 hg (Kd.R_ne hT h1 (by decide)), Kd.R_over' h2 (Kd.R_typed hT) (fun q hq => by rw [k92_E0] at hq; rw [List.mem_singleton.mp hq]; decide) hg, h3.grown hg (h3.ne_row hT), h6, h7, h9⟩
theorem IsB.sep {w w9 : World} {base : Nat} {ok : Nat → Prop} {g gb : Nat} {s : BS} (h : IsB w base ok g s) (hb : Below w.heap.size w w9) (hgb : w.heap.size ≤ gb) :
  IsB w9 base (fun k => ok k ∧ k ≠ gb ∧ ¬ ∃ cells q, (q = 3 ∨ q = 28) ∧ w9.heap[k]? = some (.cells cells q (0, 0))) g s := by
 obtain ⟨v, b1, h1, h2, h3, h6, h7, h9⟩ := h.below hb
 obtain ⟨v', b1', i1, i2, i3, i6, i7, i9⟩ := h
 have e1 : w9.heap[g]? = w.heap[g]? := hb.block g (blk_lt i1)
 rw [e1, i1] at h1
 simp only [Option.some.injEq, Obj.cells.injEq, Array.mk.injEq, List.cons.injEq, Value.map.injEq] at h1
 obtain ⟨⟨_, rfl, rfl, _⟩, _⟩ := h1
 rw [← e1] at i1
 refine ⟨v', b1', i1, Kd.R_mono (Kd.R_below (Kd.R_bound i2) hb) (fun k hk => ⟨hk.1, by have := hk.2.2.1; omega, ?_⟩), h3, ⟨h6, by have := blk_lt (e1 ▸ i1); omega, ?_⟩, ⟨h7, by have := i3.lt; omega, ?_⟩, h9⟩
 ·obtain ⟨_, _, hlt, q, hq, cells, hc⟩ := hk
  rw [k92_E0] at hq
  rw [List.mem_singleton.mp hq] at hc
  rintro ⟨cells2, q2, hq2, hc2⟩
  rw [hb.block k hlt, hc] at hc2
  simp only [Option.some.injEq, Obj.cells.injEq] at hc2
  obtain ⟨_, rfl, _⟩ := hc2
  rcases hq2 with h | h <;> exact absurd h (by decide)
 ·rintro ⟨cells2, q2, hq2, hc2⟩
  rw [i1] at hc2
  simp only [Option.some.injEq, Obj.cells.injEq] at hc2
  obtain ⟨_, rfl, _⟩ := hc2
  rcases hq2 with h | h <;> exact absurd h (by decide)
 ·rintro ⟨cells2, q2, hq2, hc2⟩
  obtain ⟨_, _, q, _⟩ := h3
  rw [hc2] at q
  cases q
theorem IF_base {w : World} {base b2 : Nat} {ok : Nat → Prop} {g : Nat} {s : BS} (hb : b2 ≤ base) (h : IsB w base ok g s) : IsB w b2 ok g s := by
 obtain ⟨v, b1, h1, h2, h3, h6, h7, h9, h10⟩ := h
 exact ⟨v, b1, h1, Kd.R_lower h2 hb, h3, h6, h7, Nat.le_trans hb h9, Nat.le_trans hb h10⟩
def impl_building.seen (a0 : Int) (l : List S92) : Nat → S92 → Option Int
 | 0 => fun _ => none
 | i + 1 => match impl_building.seen a0 l i (rd_T92 l (i : Int)) with
  | some _ => impl_building.seen a0 l i
  | none => fun y => if y = rd_T92 l (i : Int) then some (wrap64 (2 * (wrap64 ((wrap64 (1 + a0)) + (i : Int))))) else impl_building.seen a0 l i y
def impl_building.f (a0 : Int) (l : List S92) : Option BS := (impl_And_108.f l).bind fun l2 => if ∀ x ∈ l, okA x then some ⟨a0, l2, impl_building.seen a0 l l.length, false⟩ else none
set_option maxHeartbeats 4000000 in
set_option maxRecDepth 100000 in
theorem impl_building.calls (a0 : Int) (A : Option Addr) (c : Nat) (l : List S92) (s : BS) (w : World) (hr : Kd.C k92 w A l.length l) (hc : l.length ≤ c) (h : impl_building.f a0 l = some s) :
  Calls Try.prog 60 #[.agg #[.int .i64 a0, .slice A l.length c]] w fun e w' => ∃ g, e = .returned (.pointer (some ⟨g, 0, none⟩)) ∧ IsB w' w.heap.size (fun k => w.heap.size ≤ k) g s ∧ Below w.heap.size w w' := by
 have hu28 := Try.underlying28
 have hu92 := Try.underlying92
 have hu117 := Try.underlying117
 unfold impl_building.f at h
 obtain ⟨l2, h1, h2⟩ := Option.bind_eq_some_iff.mp h
 clear h
 by_cases c1 : ∀ x ∈ l, okA x
 ·rw [if_pos c1] at h2
  obtain rfl := Option.some.inj h2
  have HR := Aside0.mk hr
  have HC := Aside0.mk hc
  have H1 := Aside0.mk h1
  have C1 := Aside0.mk c1
  have HL := Aside0.mk (show l.length < 9000000000000 by
   unfold impl_And_108.f at h1
   simp only [Option.bind_some, List.length_nil, Nat.zero_add] at h1
   split at h1
   ·omega
   ·cases h1)
  clear hr hc h1 h2 c1
  go_enter Try.func60, Try.ntmps60
  go_wp2_with ((with_reducible refine gate_dst (N := 1) rfl ?_); refine box_event ?hg (N := 1) ?hd (cs := #[.int .i64 a0, .slice A l.length c]) (t := 28) ?hr ?_; (case hd => rfl); (case hg => rfl); (case hr => first | (go_simp; done) | (go_simp; rfl)); intro g0 hg0 w3 hbox hb; have BX0 := Aside0.mk hbox; have HB3 := Aside0.mk hb; clear hg0 hbox hb)
  refine start_ (n := 10) (S := fun w' => w'.cell? ⟨g0, 0, none⟩ = some (.int .i64 a0) ∧ w'.cell? ⟨g0, 1, none⟩ = some (.slice A l.length c)) (ds := []) (Pt.bm 10 0) (by kernel_rfl) rfl rfl ⟨(blk_cell BX0.out 0).trans rfl, (blk_cell BX0.out 1).trans rfl⟩ (fun hHeld => ?_)
  have HB4 := Aside0.mk (below_step HB3.out (below_drew (Below.refl _ _)))
  have BX4 := Aside0.mk (blk_drew BX0.out)
  generalize w3.drew = w4 at HB4 BX4 hHeld ⊢
  clear HB3 BX0
  refine Pt.pu 0 (some 8) (Pt.bm 10 1) (by kernel_rfl) ?_
  refine Pt.tk 1 (some 9) (Pt.bm 10 3) rfl rfl (by kernel_rfl) hHeld (Or.inl ⟨by rfl, by rintro w' ⟨s0, s1⟩; go_simp; with_reducible rfl⟩) ?_
  refine Pt.pu 2 (some 10) (Pt.bm 10 7) (by kernel_rfl) ?_
  refine Pt.tk 3 (some 11) (Pt.bm 10 15) rfl rfl (by kernel_rfl) hHeld (Or.inl ⟨by rfl, by rintro w' ⟨s0, s1⟩; go_simp; with_reducible rfl⟩) ?_
  refine join_ (σ := Value × Nat) 3 (Pt.bm 10 127) (fun s_ => [(12, s_.1), (13, .agg #[.int .i64 a0, s_.1]), (14, .map (some s_.2))]) (fun s_ w' => Kd.R k92 92 w' w.heap.size (fun k => w.heap.size ≤ k) s_.1 l2 ∧ Mp.Is ekA okA (Value.int .i64) w' s_.2 (fun _ => none) ∧ w.heap.size ≤ s_.2 ∧ Below w.heap.size w w' ∧ w'.heap[g0]? = some (.cells #[.int .i64 a0, .slice A l.length c] 28 (0, 0))) ?_ ?_
  rotate_left
  ·intro hCont
   refine two_ (i := 4) (j := 6) (Ni := some 12) (Nj := some 14) (Pt.bm 10 31) (Pt.bm 10 79) rfl rfl rfl rfl (by kernel_rfl) (by decide) (by decide) (fun K hK => ?_) (fun K hK => ?_)
   ·skip
    refine goes_ Try.func108 (by kernel_rfl) rfl #[.slice A l.length c] (by rfl) rfl rfl (by (try simp only [List.map_toArray, List.map_cons, List.map_nil]); first | done | rfl) ?_
    refine (impl_And_108.calls A c l l2 _ (Kd.C_below HR.out HB4.out) HC.out H1.out).mono ?_
    rintro e w4 ⟨v4, rfl, hRv, hb⟩
    refine ⟨_, rfl, ?_⟩
    have R4 := Aside0.mk (Kd.R_mono (Kd.R_bound (Kd.R_lower hRv HB4.out.size)) (fun k hk => hk.2.1))
    obtain ⟨A4, c4, e4⟩ := Kd.R_slice hRv
    subst e4
    have HB4 := Aside0.mk (below_step HB4.out hb)
    have BX4 := Aside0.mk (blk_below BX4.out hb)
    refine hK.out _ _ ⟨(blk_cell BX4.out 0).trans rfl, (blk_cell BX4.out 1).trans rfl⟩ (fun hHeld => ?_)
    clear hK K hb
    refine norm_ (a' := ?_) ?_ ?_
    rotate_left
    ·show Act.put _ (some 12) _ = _
     simp only [Act.put, List.setIfInBounds_toArray, List.set_cons_zero, List.set_cons_succ, i64_w, i32_w]
     rfl
    refine Pt.pu 5 (some 13) (Pt.bm 10 63) (by kernel_rfl) ?_
    refine one_ (i := 6) (N := some 14) (Pt.bm 10 127) rfl rfl (by kernel_rfl) (by decide) (fun K hK => ?_)
    refine value_ (w1 := w4.alloc (.map #[] 0)) (v := .map (some w4.heap.size)) (by rfl) rfl rfl ?_
    have hb := below_alloc (Below.refl w4.heap.size w4) (.map #[] 0)
    have M64 := Aside0.mk (Mp.Is.made ekA okA (Value.int .i64) w4)
    have G64 := Aside0.mk HB4.out.size
    have HB64 := Aside0.mk (below_step HB4.out hb)
    have BX64 := Aside0.mk (blk_below BX4.out hb)
    have R64 := Aside0.mk (Kd.R_below R4.out hb)
    refine hK.out _ _ ⟨(blk_cell BX64.out 0).trans rfl, (blk_cell BX64.out 1).trans rfl⟩ (fun hHeld => ?_)
    clear hK K hb
    refine norm_ (a' := ?_) ?_ ?_
    rotate_left
    ·show Act.put _ (some 14) _ = _
     simp only [Act.put, List.setIfInBounds_toArray, List.set_cons_zero, List.set_cons_succ, i64_w, i32_w]
     rfl
    exact norm_ (by simp only [putAll, Act.put, List.setIfInBounds_toArray, List.set_cons_zero, List.set_cons_succ]) (hCont ((.slice A4 l2.length c4), w4.heap.size) _ ⟨R64.out, M64.out, G64.out, HB64.out, BX64.out⟩)
   ·skip
    refine value_ (w1 := w4.alloc (.map #[] 0)) (v := .map (some w4.heap.size)) (by rfl) rfl rfl ?_
    have hb := below_alloc (Below.refl w4.heap.size w4) (.map #[] 0)
    have M6 := Aside0.mk (Mp.Is.made ekA okA (Value.int .i64) w4)
    have G6 := Aside0.mk HB4.out.size
    have HB6 := Aside0.mk (below_step HB4.out hb)
    have BX6 := Aside0.mk (blk_below BX4.out hb)
    refine hK.out _ _ ⟨(blk_cell BX6.out 0).trans rfl, (blk_cell BX6.out 1).trans rfl⟩ (fun hHeld => ?_)
    clear hK K hb
    refine norm_ (a' := ?_) ?_ ?_
    rotate_left
    ·show Act.put _ (some 14) _ = _
     simp only [Act.put, List.setIfInBounds_toArray, List.set_cons_zero, List.set_cons_succ, i64_w, i32_w]
     rfl
    refine one_ (i := 4) (N := some 12) (Pt.bm 10 95) rfl rfl (by kernel_rfl) (by decide) (fun K hK => ?_)
    refine goes_ Try.func108 (by kernel_rfl) rfl #[.slice A l.length c] (by rfl) rfl rfl (by (try simp only [List.map_toArray, List.map_cons, List.map_nil]); first | done | rfl) ?_
    refine (impl_And_108.calls A c l l2 _ (Kd.C_below HR.out HB6.out) HC.out H1.out).mono ?_
    rintro e w46 ⟨v46, rfl, hRv, hb⟩
    refine ⟨_, rfl, ?_⟩
    have R46 := Aside0.mk (Kd.R_mono (Kd.R_bound (Kd.R_lower hRv HB6.out.size)) (fun k hk => hk.2.1))
    obtain ⟨A46, c46, e46⟩ := Kd.R_slice hRv
    subst e46
    have HB46 := Aside0.mk (below_step HB6.out hb)
    have BX46 := Aside0.mk (blk_below BX6.out hb)
    have X46 := Aside0.mk (M6.out.below hb)
    refine hK.out _ _ ⟨(blk_cell BX46.out 0).trans rfl, (blk_cell BX46.out 1).trans rfl⟩ (fun hHeld => ?_)
    clear hK K hb
    refine norm_ (a' := ?_) ?_ ?_
    rotate_left
    ·show Act.put _ (some 12) _ = _
     simp only [Act.put, List.setIfInBounds_toArray, List.set_cons_zero, List.set_cons_succ, i64_w, i32_w]
     rfl
    refine Pt.pu 5 (some 13) (Pt.bm 10 127) (by kernel_rfl) ?_
    exact norm_ (by simp only [putAll, Act.put, List.setIfInBounds_toArray, List.set_cons_zero, List.set_cons_succ]) (hCont ((.slice A46 l2.length c46), w4.heap.size) _ ⟨R46.out, X46.out, G6.out, HB46.out, BX46.out⟩)
  rintro ⟨v0, b1⟩ w5 ⟨hRv, hm1, hb1, hb, hbx⟩
  obtain ⟨A5, c5, rfl⟩ := Kd.R_slice hRv
  refine norm_ (a' := ?_) ?_ ?_
  rotate_left
  ·simp only [putAll, Act.put, List.setIfInBounds_toArray, List.set_cons_zero, List.set_cons_succ]
   rfl
  have HR5 := Aside0.mk hRv
  have M5 := Aside0.mk hm1
  have KS := Aside0.mk hb1
  have HB5 := Aside0.mk hb
  have BX5 := Aside0.mk hbx
  clear hRv hm1 hb1 hb hbx hHeld HB4 BX4
  refine Pt.pu 7 (some 15) (Pt.bm 10 255) (by kernel_rfl) ?_
  refine one_ (i := 8) (N := some 16) (Pt.bm 10 511) rfl rfl (by kernel_rfl) (by decide) (fun K hK => ?_)
  refine box_step (by rfl) (N := 16) rfl (cs := #[.int .i64 a0, .slice A5 l2.length c5, .map (some b1), .bool false]) (t := 117) ?hr ?_
  case hr => first | (go_simp; done) | (go_simp; rfl)
  intro g hg w6 hbox hb
  have BG6 := Aside0.mk hbox
  have HG := Aside0.mk (show w.heap.size ≤ g by rw [hg]; exact HB5.out.size)
  have BX6 := Aside0.mk (blk_below BX5.out hb)
  have HR6 := Aside0.mk (Kd.R_below HR5.out hb)
  have M6 := Aside0.mk (M5.out.below hb)
  have HB6 := Aside0.mk (below_step HB5.out hb)
  refine hK.out _ _ ⟨(blk_cell BX6.out 0).trans rfl, (blk_cell BX6.out 1).trans rfl⟩ (fun hHeld => ?_)
  clear hK K hb hbox hg HB5 BX5 HR5 M5
  refine norm_ (a' := ?_) ?_ ?_
  rotate_left
  ·show Act.put _ (some 16) _ = _
   simp only [Act.put, List.setIfInBounds_toArray, List.set_cons_zero, List.set_cons_succ, i64_w, i32_w]
   rfl
  refine Pt.pu 9 (some 3) (Pt.bm 10 1023) (by kernel_rfl) ?_
  refine done_ (by kernel_rfl) ?_
  have hx1 : w6.cell? ⟨g0, 1, none⟩ = some (.slice A l.length c) := (blk_cell BX6.out 1).trans rfl
  clear hHeld
  go_wp2
  clear hx1
  go_loopg [20] l.length (fun gg s20 wr => ∃ (i : Nat), s20 = .int .i64 (i : Int) ∧ Aside0 (i + gg = l.length) ∧ Aside0 (wr.heap[g]? = some (.cells #[.int .i64 a0, .slice A5 l2.length c5, .map (some b1), .bool false] 117 (0, 0))) ∧ Aside0 (wr.heap[g0]? = some (.cells #[.int .i64 a0, .slice A l.length c] 28 (0, 0))) ∧ Aside0 (Kd.R k92 92 wr w.heap.size (fun k => w.heap.size ≤ k) (.slice A5 l2.length c5) l2) ∧ Aside0 (Mp.Is ekA okA (Value.int .i64) wr b1 (impl_building.seen a0 l i)) ∧ Aside0 (Below w.heap.size w wr))
  case atStart => exact ⟨0, rfl, ⟨by omega⟩, BG6, BX6, HR6, M6, HB6⟩
  case round =>
   clear BG6 BX6 HR6 M6 HB6
   obtain ⟨i, rfl, HI, BG, BC, HRr, M, HB⟩ := hrel
   by_cases c2 : i < l.length
   ·obtain ⟨k1, rfl⟩ : ∃ k1, gk = k1 + 1 := ⟨gk - 1, by have := HI.out; omega⟩
    have c2a : (i : Int) < (l.length : Int) := by omega
    have c2b : decide ((i : Int) < (l.length : Int)) = true := decide_eq_true c2a
    have c2c : (0 : Int) ≤ (i : Int) := by omega
    have c2d : decide ((0 : Int) ≤ (i : Int)) = true := decide_eq_true c2c
    obtain ⟨ad, rfl, hx0, hx1⟩ := at_T92 HR.out (i : Int) c2c c2a
    have OK := Aside0.mk (C1.out (rd_T92 l (i : Int)) (by unfold rd_T92; rw [List.getD_eq_getElem?_getD, Int.toNat_natCast, List.getElem?_eq_getElem c2]; exact List.getElem_mem c2))
    obtain ⟨x, hx⟩ : ∃ x, rd_T92 l (i : Int) = x := ⟨_, rfl⟩
    rw [hx] at hx0 hx1 OK
    simp only [Int.toNat_natCast] at hx0 hx1
    have HX := Aside0.mk hx
    replace hx0 := bct HB.out hx0
    replace hx1 := bct HB.out hx1
    have hw2 : wrap64 ((i : Int) + 1) = (i : Int) + 1 := by have := HL.out; unfold wrap64; omega
    have hw2' : (IntKind.i64.wrap ((i : Int) + 1)) = (i : Int) + 1 := (i64_w _).trans hw2
    clear hx
    go_wp2_with ((with_reducible refine gate_dst (N := 5) rfl ?_); refine box_event ?hg (N := 5) ?hd (cs := #[.int .i64 0, .int .i64 0]) (t := 92) ?hr ?_; (case hd => rfl); (case hg => rfl); (case hr => first | (go_simp; done) | (go_simp; rfl)); intro gb hgb w7 hbox hb; have BX0 := Aside0.mk hbox; have HB7 := Aside0.mk hb; have hz0 : w7.cell? ⟨gb, 0, none⟩ = some (.int .i64 0) := (blk_cell BX0.out 0).trans rfl; have hz1 : w7.cell? ⟨gb, 1, none⟩ = some (.int .i64 0) := (blk_cell BX0.out 1).trans rfl; have hy0 := blk_frozen BX0.out 0; have hy1 := blk_frozen BX0.out 1; have HGB := Aside0.mk hgb; clear hgb hbox hb)
    have n0 : Aside0 (Below wr.heap.size wr ((w7.setCell ⟨gb, 0, none⟩ (.int .i64 x.f0)).setCell ⟨gb, 1, none⟩ (.int .i64 x.f1))) := ⟨below_set (below_set HB7.out (Nat.le_of_eq HGB.out.symm)) (Nat.le_of_eq HGB.out.symm)⟩
    have n1 : Aside0 (((w7.setCell ⟨gb, 0, none⟩ (.int .i64 x.f0)).setCell ⟨gb, 1, none⟩ (.int .i64 x.f1)).heap[gb]? = some (.cells #[.int .i64 x.f0, .int .i64 x.f1] 92 (0, 0))) := ⟨blk_put (blk_put BX0.out 0 _ rfl) 1 _ rfl⟩
    generalize ((w7.setCell ⟨gb, 0, none⟩ (.int .i64 x.f0)).setCell ⟨gb, 1, none⟩ (.int .i64 x.f1)) = w8 at n0 n1 ⊢
    clear hz0 hz1 hy0 hy1 BX0 HB7 hx0 hx1
    have BG8 := Aside0.mk (blk_below BG.out n0.out)
    have M8 := Aside0.mk (M.out.below n0.out)
    refine start_ (n := 11) (S := fun w' => w'.cell? ⟨g, 2, none⟩ = some (.map (some b1)) ∧ w'.cell? ⟨gb, 0, none⟩ = some (.int .i64 x.f0) ∧ w'.cell? ⟨gb, 1, none⟩ = some (.int .i64 x.f1) ∧ Mp.Is ekA okA (Value.int .i64) w' b1 (impl_building.seen a0 l i)) (ds := []) (Pt.bm 11 0) (by kernel_rfl) rfl rfl ⟨(blk_cell BG8.out 2).trans rfl, (blk_cell n1.out 0).trans rfl, (blk_cell n1.out 1).trans rfl, M8.out.drew⟩ (fun hHeld => ?_)
    have HB9 := Aside0.mk (below_step n0.out (below_drew (Below.refl _ _)))
    have BB9 := Aside0.mk (blk_drew n1.out)
    generalize w8.drew = w9 at HB9 BB9 hHeld ⊢
    clear n0 n1 BG8 M8
    have BG9 := Aside0.mk (blk_below BG.out HB9.out)
    have BC9 := Aside0.mk (blk_below BC.out HB9.out)
    have M9 := Aside0.mk (M.out.below HB9.out)
    have HR9 := Aside0.mk (Kd.R_below HRr.out HB9.out)
    have HBB := Aside0.mk (below_step HB.out HB9.out)
    refine Pt.pu 0 (some 26) (Pt.bm 11 1) (by kernel_rfl) ?_
    refine Pt.pu 1 (some 27) (Pt.bm 11 3) (by kernel_rfl) ?_
    refine Pt.pu 2 (some 28) (Pt.bm 11 7) (by kernel_rfl) ?_
    refine Pt.tk 3 (some 29) (Pt.bm 11 15) rfl rfl (by kernel_rfl) hHeld (Or.inl ⟨by rfl, by rintro w' ⟨s0, s1, s2, sM⟩; go_simp; with_reducible rfl⟩) ?_
    refine Pt.tk 4 (some 30) (Pt.bm 11 31) rfl rfl (by kernel_rfl) hHeld (Or.inl ⟨by rfl, by rintro w' ⟨s0, s1, s2, sM⟩; go_simp; with_reducible rfl⟩) ?_
    cases hs : impl_building.seen a0 l i x with
    | some n =>
     refine Pt.tk 5 (some 31) (Pt.bm 11 63) rfl rfl (by kernel_rfl) hHeld (Or.inl ⟨by rfl, by rintro w' ⟨s0, s1, s2, sM⟩; exact Mp.run_some (.tmp 29) (.tmp 30) rfl rfl sM keyA Try.underlying115 zero_int x rfl OK.out hs⟩) ?_
     refine Pt.pu 6 (some 25) (Pt.bm 11 127) (by kernel_rfl) ?_
     refine Pt.pu 7 (some 32) (Pt.bm 11 255) (by kernel_rfl) ?_
     refine Pt.pu 8 (some 33) (Pt.bm 11 511) (by kernel_rfl) ?_
     refine Pt.pu 9 (some 6) (Pt.bm 11 1023) (by kernel_rfl) ?_
     refine Pt.pu 10 (some 7) (Pt.bm 11 2047) (by kernel_rfl) ?_
     refine done_ (by kernel_rfl) ?_
     clear hHeld
     have M10 : Aside0 (Mp.Is ekA okA (Value.int .i64) w9 b1 (impl_building.seen a0 l (i + 1))) := ⟨by
      have e : impl_building.seen a0 l (i + 1) = impl_building.seen a0 l i := by
       rw [impl_building.seen.eq_2, HX.out, hs]
      rw [e]
      exact M9.out⟩
     go_wp2
     go_roundg k1
     case measure => exact Nat.lt_succ_self _
     case rel => exact ⟨i + 1, by first | rfl | (simp only [Int.natCast_add]; rfl) | simp [hw2, hw2'], ⟨by have := HI.out; omega⟩, BG9, BC9, HR9, M10, HBB⟩
    | none =>
     refine Pt.tk 5 (some 31) (Pt.bm 11 63) rfl rfl (by kernel_rfl) hHeld (Or.inl ⟨by rfl, by rintro w' ⟨s0, s1, s2, sM⟩; exact Mp.run_none (.tmp 29) (.tmp 30) rfl rfl sM keyA Try.underlying115 zero_int x rfl OK.out hs⟩) ?_
     refine Pt.pu 6 (some 25) (Pt.bm 11 127) (by kernel_rfl) ?_
     refine Pt.pu 7 (some 32) (Pt.bm 11 255) (by kernel_rfl) ?_
     refine Pt.pu 8 (some 33) (Pt.bm 11 511) (by kernel_rfl) ?_
     refine Pt.pu 9 (some 6) (Pt.bm 11 1023) (by kernel_rfl) ?_
     refine Pt.pu 10 (some 7) (Pt.bm 11 2047) (by kernel_rfl) ?_
     refine done_ (by kernel_rfl) ?_
     clear hHeld
     go_wp2
     refine start_ (n := 12) (S := fun w' => w'.cell? ⟨g, 2, none⟩ = some (.map (some b1)) ∧ w'.cell? ⟨gb, 0, none⟩ = some (.int .i64 x.f0) ∧ w'.cell? ⟨gb, 1, none⟩ = some (.int .i64 x.f1) ∧ w'.cell? ⟨g0, 0, none⟩ = some (.int .i64 a0)) (ds := [11]) (Pt.bm 12 0) (by kernel_rfl) rfl rfl ⟨(blk_cell (blk_drew BG9.out) 2).trans rfl, (blk_cell (blk_drew BB9.out) 0).trans rfl, (blk_cell (blk_drew BB9.out) 1).trans rfl, (blk_cell (blk_drew BC9.out) 0).trans rfl⟩ (fun hHeld => ?_)
     have n0 := Aside0.mk (blk_drew BG9.out)
     have n1 := Aside0.mk (blk_drew BC9.out)
     have n2 := Aside0.mk M9.out.drew
     have n3 := Aside0.mk (Kd.R_drew HR9.out)
     have n4 := Aside0.mk (below_drew HBB.out)
     clear BG9 BC9 BB9 M9 HR9 HBB HB9
     generalize w9.drew = w10 at n0 n1 n2 n3 n4 hHeld ⊢
     refine Pt.pu 0 (some 36) (Pt.bm 12 1) (by kernel_rfl) ?_
     refine Pt.pu 1 (some 37) (Pt.bm 12 3) (by kernel_rfl) ?_
     refine Pt.pu 2 (some 38) (Pt.bm 12 7) (by kernel_rfl) ?_
     refine Pt.tk 3 (some 39) (Pt.bm 12 15) rfl rfl (by kernel_rfl) hHeld (Or.inl ⟨by rfl, by rintro w' ⟨s0, s1, s2, s3⟩; go_simp; with_reducible rfl⟩) ?_
     refine Pt.tk 4 (some 40) (Pt.bm 12 31) rfl rfl (by kernel_rfl) hHeld (Or.inl ⟨by rfl, by rintro w' ⟨s0, s1, s2, s3⟩; go_simp; with_reducible rfl⟩) ?_
     refine Pt.pu 5 (some 41) (Pt.bm 12 63) (by kernel_rfl) ?_
     refine Pt.tk 6 (some 42) (Pt.bm 12 127) rfl rfl (by kernel_rfl) hHeld (Or.inl ⟨by rfl, by rintro w' ⟨s0, s1, s2, s3⟩; go_simp; with_reducible rfl⟩) ?_
     refine Pt.pu 7 (some 43) (Pt.bm 12 255) (by kernel_rfl) ?_
     refine Pt.pu 8 (some 44) (Pt.bm 12 511) (by kernel_rfl) ?_
     refine Pt.pu 9 (some 45) (Pt.bm 12 1023) (by kernel_rfl) ?_
     refine Pt.pu 10 (some 46) (Pt.bm 12 2047) (by kernel_rfl) ?_
     refine last_ (i := 11) (N := none) (Pt.bm 12 4095) rfl rfl (by kernel_rfl) (by decide) (fun K hK => ?_)
     refine Mp.store_step (by rfl) rfl (.tmp 39) (.tmp 40) (.tmp 46) rfl rfl n2.out keyA Try.underlying115 x rfl OK.out (wrap64 (2 * (wrap64 ((wrap64 (1 + a0)) + (i : Int))))) ?hv ?_
     case hv =>
      show Value.int .i64 _ = _
      first | rfl | simp only [i64_w]
     intro w11 hM11 hg11 hz11
     refine hK.out _ _ ?_
     clear hK K hHeld
     refine done_ (by kernel_rfl) ?_
     have BG11 := Aside0.mk (blk_grown n0.out hg11 (by simpa using (n2.out.ne_blk n0.out).symm))
     have BC11 := Aside0.mk (blk_grown n1.out hg11 (by simpa using (n2.out.ne_blk n1.out).symm))
     have HO11 := Aside0.mk (Kd.R_map n3.out n2.out hg11)
     have HB11 := Aside0.mk (pw_below_grown n4.out (some b1) (by exact n4.out.size) hg11 (fun k hk => by cases hk; exact KS.out))
     have M11 : Aside0 (Mp.Is ekA okA (Value.int .i64) w11 b1 (impl_building.seen a0 l (i + 1))) := ⟨by
      have e : impl_building.seen a0 l (i + 1) = fun y' => if y' = x then some (wrap64 (2 * (wrap64 ((wrap64 (1 + a0)) + (i : Int))))) else impl_building.seen a0 l i y' := by
       funext y'
       rw [impl_building.seen.eq_2, HX.out, hs]
      rw [e]
      exact hM11⟩
     clear hM11 hg11 hz11 n0 n1 n2 n3 n4
     go_wp2
     go_roundg k1
     case measure => exact Nat.lt_succ_self _
     case rel => exact ⟨i + 1, by first | rfl | (simp only [Int.natCast_add]; rfl) | simp [hw2, hw2'], ⟨by have := HI.out; omega⟩, BG11, BC11, HO11, M11, HB11⟩
   ·have hi : i = l.length := by have := HI.out; omega
    subst hi
    have c2b : decide ((l.length : Int) < (l.length : Int)) = false := decide_eq_false (by omega)
    go_wp2
    go_ret
    exact ⟨g, rfl, ⟨_, b1, BG.out, HRr.out, M.out, HG.out, KS.out, HG.out, KS.out⟩, HB.out⟩
 ·rw [if_neg c1] at h2
  cases h2
theorem impl_building.calls0 (a0 : Int) (s : BS) (w : World) (h : impl_building.f a0 [] = some s) :
  Calls Try.prog 60 #[.agg #[.int .i64 a0, .slice none 0 0]] w fun e w' => ∃ g, e = .returned (.pointer (some ⟨g, 0, none⟩)) ∧ IsB w' w.heap.size (fun k => w.heap.size ≤ k) g s ∧ Below w.heap.size w w' :=
 impl_building.calls a0 none 0 [] s w (Kd.C_nil _ _) (Nat.le_refl _) h

/-! ### impl_And_109: function 109 -/
def impl_And_109.f (l0 : List (S92)) : Option (List (S92)) := if l0.length ≤ 8796093022207 then some l0 else none
set_option maxHeartbeats 400000 in
set_option maxRecDepth 100000 in
theorem impl_And_109.calls (A0 : Option Addr) (c0 : Nat) (l0 : List (S92)) (r : List (S92)) (w : World) (hr0 : Kd.C k92 w A0 l0.length l0) (hc0 : l0.length ≤ c0) (h : impl_And_109.f l0 = some r) :
  Calls Try.prog 109 #[.slice A0 l0.length c0] w fun e w' => ∃ v0_ : Value, e = .returned (v0_) ∧ Kd.R k92 92 w' w.heap.size (fun _ => True) v0_ r ∧ Below w.heap.size w w' := by
 unfold impl_And_109.f at h
 by_cases c1 : l0.length ≤ 8796093022207
 ·rw [if_pos c1] at h
  obtain rfl := Option.some.inj h
  clear h
  have HR0 := Aside0.mk hr0
  have C1 := Aside0.mk c1
  clear hr0 c1
  by_cases c2 : l0.length = 0
  ·have c2b : ((l0.length : Int) == 0) = true := by rw [beq_iff_eq]; omega
   have HL := Aside0.mk (List.eq_nil_of_length_eq_zero c2)
   clear c2
   go_enter Try.func109, Try.ntmps109
   go_wp2
   go_ret
   exact ⟨_, rfl, by rw [HL.out]; exact Kd.R_nil _ _ _ _ _, Below.refl _ _⟩
  ·have c2b : ((l0.length : Int) == 0) = false := by rw [beq_eq_false_iff_ne]; omega
   have c2c : (l0.length == 0) = false := by rw [beq_eq_false_iff_ne]; omega
   have HP := Aside0.mk (Nat.pos_of_ne_zero c2)
   clear c2
   go_enter Try.func109, Try.ntmps109
   go_wp2_with (first | ((with_reducible refine gate_dst (N := 9) rfl ?_); refine Kd.R_make k92 _ 92 rfl (N := 9) rfl 26 _ _ rfl (l0.length : Int) rfl rfl Try.underlying26 (.agg #[(.int .i64 0), (.int .i64 0)]) 16 info92 rfl (by decide) (by omega) z92 (ok := fun _ => True) (okp := fun _ => True) (k92_mkM _ _ _ z92 ) (fun _ hk => hk) trivial (by omega) (by have := C1.out; omega) (Below.refl _ _) (Nat.le_refl _) ?_; intro v178 w4 ho5 hb hg_ hnew_; clear hg_ hnew_; have HO := Aside0.mk ho5; have HB := Aside0.mk hb; clear hb ho5) | ((with_reducible refine gate_dst (N := 12) rfl ?_); refine Copy.R_copyK k92 (w0 := w) (xs := List.replicate (l0.length : Int).toNat z92) (ys := l0) w.heap.size 92 rfl _ _ 26 26 rfl Try.underlying26 (by kernel_rfl) (okp := fun _ => False) rfl rfl (by simp) HP.out HO.out (Kd.C_below HR0.out HB.out) (fun _ _ h_ => h_) (fun _ h_ => absurd h_ (by simp)) HB.out ?_; intro w5 ho5 hb; clear HB; have HO5 := Aside0.mk ho5; have HB := Aside0.mk hb; clear hb ho5))
   go_ret
   exact ⟨_, rfl, HO5.out, HB.out⟩
 ·rw [if_neg c1] at h
  exact absurd h (by simp)

/-! ### impl_builder_done: function 61 -/
def impl_builder_done.f (s : BS) (n : Int) : Option (Int × List S92 × Int) := if s.full = true then some (0, [], -1) else (impl_And_109.f s.gates).bind fun l => some (s.inputs, l, n)
set_option maxHeartbeats 4000000 in
set_option maxRecDepth 100000 in
theorem impl_builder_done.calls (s : BS) (n r1 : Int) (r2 : List S92) (r3 : Int) (base : Nat) (ok : Nat → Prop) (g : Nat) (w : World) (hI : IsB w base ok g s) (h : impl_builder_done.f s n = some (r1, r2, r3)) :
  Calls Try.prog 61 #[.pointer (some ⟨g, 0, none⟩), .int .i64 n] w fun e w' => ∃ v1 : Value, e = .returned (.tuple #[.agg #[.int .i64 r1, v1], .int .i64 r3]) ∧ Kd.R k92 92 w' w.heap.size (fun _ => True) v1 r2 ∧ Below w.heap.size w w' := by
 have hu28 := Try.underlying28
 have hu92 := Try.underlying92
 have hu117 := Try.underlying117
 obtain ⟨u, b1, hg, hR, _⟩ := hI
 obtain ⟨A, c, rfl⟩ := Kd.R_slice hR
 have BG := Aside0.mk hg
 have HR := Aside0.mk (Kd.R_reads' hR).2.2
 have HC := Aside0.mk (Kd.R_reads' hR).2.1
 unfold impl_builder_done.f at h
 have HLT := Aside0.mk (blk_lt hg)
 clear hR hg
 by_cases c1 : s.full = true
 ·rw [if_pos c1] at h
  simp only [Option.some.injEq, Prod.mk.injEq] at h
  obtain ⟨rfl, rfl, rfl⟩ := h
  go_enter Try.func61, Try.ntmps61
  go_wp2_with ((with_reducible refine gate_dst (N := 4) rfl ?_); refine box_event ?hg (N := 4) ?hd (cs := #[.int .i64 0, .slice none 0 0]) (t := 28) ?hr ?_; (case hd => rfl); (case hg => rfl); (case hr => first | (go_simp; done) | (go_simp; rfl)); intro gb hgb w3 hbox hb; have BX0 := Aside0.mk hbox; have HB3 := Aside0.mk hb; have hz0 : w3.cell? ⟨gb, 0, none⟩ = some (.int .i64 0) := (blk_cell BX0.out 0).trans rfl; have hz1 : w3.cell? ⟨gb, 1, none⟩ = some (.slice none 0 0) := (blk_cell BX0.out 1).trans rfl; have hy0 := blk_frozen BX0.out 0; have hy1 := blk_frozen BX0.out 1; have HGB := Aside0.mk hgb; have BG3 := Aside0.mk (blk_below BG.out hb); have hi3 : w3.cell? ⟨g, 3, none⟩ = some (.bool true) := (blk_cell BG3.out 3).trans (by rw [← c1]; rfl); clear hgb hbox hb)
  refine bodyPost_ret (results_ct rfl _ _ gb 28 #[.int .i64 0, .slice none 0 0] (0, 0) _ rfl (blk_put (blk_put BX0.out 0 _ rfl) 1 _ rfl) Try.underlying28 rfl (by kernel_rfl)) rfl ?_
  exact ⟨_, rfl, Kd.R_nil _ _ _ _ _, below_set (below_set HB3.out (Nat.le_of_eq HGB.out.symm)) (Nat.le_of_eq HGB.out.symm)⟩
 ·rw [if_neg c1] at h
  obtain ⟨l, h1, h2⟩ := Option.bind_eq_some_iff.mp h
  simp only [Option.some.injEq, Prod.mk.injEq] at h2
  obtain ⟨rfl, rfl, rfl⟩ := h2
  have H1 := Aside0.mk h1
  replace c1 := Bool.eq_false_iff.mpr c1
  clear h h1
  go_enter Try.func61, Try.ntmps61
  go_wp2_with ((with_reducible refine gate_dst (N := 4) rfl ?_); refine box_event ?hg (N := 4) ?hd (cs := #[.int .i64 0, .slice none 0 0]) (t := 28) ?hr ?_; (case hd => rfl); (case hg => rfl); (case hr => first | (go_simp; done) | (go_simp; rfl)); intro gb hgb w3 hbox hb; have BX0 := Aside0.mk hbox; have HB3 := Aside0.mk hb; have HGB := Aside0.mk hgb; have BG3 := Aside0.mk (blk_below BG.out hb); have hi3 : w3.cell? ⟨g, 3, none⟩ = some (.bool false) := (blk_cell BG3.out 3).trans (by rw [← c1]; rfl); clear hgb hbox hb)
  refine start_ (n := 15) (S := fun w' => w'.cell? ⟨g, 0, none⟩ = some (.int .i64 s.inputs) ∧ w'.cell? ⟨g, 1, none⟩ = some (.slice A s.gates.length c)) (ds := [13]) (Pt.bm 15 0) (by kernel_rfl) rfl rfl ⟨(blk_cell BG3.out 0).trans rfl, (blk_cell BG3.out 1).trans rfl⟩ (fun hHeld => ?_)
  have hd1 : Below w3.heap.size w3 w3.drew := below_drew (Below.refl _ _)
  have n0 := Aside0.mk (below_step HB3.out hd1)
  have n1 := Aside0.mk (blk_drew BX0.out)
  clear hi3
  generalize w3.drew = w4 at n0 n1 hHeld ⊢
  clear hd1 HB3 BX0 BG3
  have HB4 := n0
  have BX4 := n1
  clear n0 n1
  have BG4 := Aside0.mk (blk_below BG.out HB4.out)
  have HR4 := Aside0.mk (Kd.C_below HR.out HB4.out)
  refine Pt.pu 0 (some 11) (Pt.bm 15 1) (by kernel_rfl) ?_
  refine Pt.pu 1 (some 12) (Pt.bm 15 3) (by kernel_rfl) ?_
  refine Pt.pu 2 (some 13) (Pt.bm 15 7) (by kernel_rfl) ?_
  refine Pt.pu 3 (some 14) (Pt.bm 15 15) (by kernel_rfl) ?_
  refine Pt.tk 4 (some 15) (Pt.bm 15 31) rfl rfl (by kernel_rfl) hHeld (Or.inl ⟨by rfl, by rintro w' ⟨s0, s1⟩; go_simp; with_reducible rfl⟩) ?_
  refine Pt.pu 5 (some 16) (Pt.bm 15 63) (by kernel_rfl) ?_
  refine Pt.pu 6 (some 17) (Pt.bm 15 127) (by kernel_rfl) ?_
  refine Pt.pu 7 (some 18) (Pt.bm 15 255) (by kernel_rfl) ?_
  refine Pt.pu 8 (some 19) (Pt.bm 15 511) (by kernel_rfl) ?_
  refine Pt.tk 9 (some 20) (Pt.bm 15 1023) rfl rfl (by kernel_rfl) hHeld (Or.inl ⟨by rfl, by rintro w' ⟨s0, s1⟩; go_simp; with_reducible rfl⟩) ?_
  refine Pt.pu 12 (some 23) (Pt.bm 15 5119) (by kernel_rfl) ?_
  refine one_ (i := 10) (N := some 21) (Pt.bm 15 6143) rfl rfl (by kernel_rfl) (by decide) (fun K hK => ?_)
  refine goes_ Try.func109 (by kernel_rfl) rfl #[.slice A s.gates.length c] (by rfl) rfl rfl (by (try simp only [List.map_toArray, List.map_cons, List.map_nil]); first | done | rfl) ?_
  refine (impl_And_109.calls A c s.gates _ _ HR4.out HC.out H1.out).mono ?_
  rintro e w5 ⟨v0, rfl, hR5, hb5⟩
  refine ⟨_, rfl, ?_⟩
  obtain ⟨A5, c5, rfl⟩ := Kd.R_slice hR5
  have HR5 := Aside0.mk hR5
  have HB5 := Aside0.mk hb5
  have BG5 := Aside0.mk (blk_below BG4.out hb5)
  have BX5 := Aside0.mk (blk_below BX4.out hb5)
  clear hR5 hb5
  refine hK.out _ _ ⟨(blk_cell BG5.out 0).trans rfl, (blk_cell BG5.out 1).trans rfl⟩ (fun hHeld => ?_)
  clear hK K
  refine norm_ (a' := ?_) ?_ ?_
  rotate_left
  ·show Act.put _ (some 21) _ = _
   simp only [Act.put, List.setIfInBounds_toArray, List.set_cons_zero, List.set_cons_succ, i64_w, i32_w]
   rfl
  refine Pt.pu 11 (some 22) (Pt.bm 15 8191) (by kernel_rfl) ?_
  refine last_ (i := 13) (N := none) (Pt.bm 15 16383) rfl rfl (by kernel_rfl) (by decide) (fun K hK => ?_)
  have hs0 : w5.cell? ⟨gb, 0, none⟩ = some (.int .i64 0) := (blk_cell BX5.out 0).trans rfl
  have hs1 : w5.cell? ⟨gb, 1, none⟩ = some (.slice none 0 0) := (blk_cell BX5.out 1).trans rfl
  have hfs0 := blk_frozen BX5.out 0
  have hfs1 := blk_frozen BX5.out 1
  refine skip_ (w1 := ?_) (by rfl) rfl ?_ ?_
  rotate_left
  ·go_simp
   rfl
  refine hK.out _ _ ?_
  clear hK K hs0 hs1 hfs0 hfs1
  refine Pt.pu 14 (some 5) (Pt.bm 15 32767) (by kernel_rfl) ?_
  refine done_ (by kernel_rfl) ?_
  try go_wp2
  refine bodyPost_ret (results_ct rfl _ _ gb 28 #[.int .i64 s.inputs, .slice A5 l.length c5] (0, 0) _ rfl (blk_put (blk_put BX5.out 0 _ rfl) 1 _ rfl) Try.underlying28 rfl (by kernel_rfl)) rfl ?_
  exact ⟨_, rfl, Kd.R_far (p := ⟨gb, 1, none⟩) (Kd.R_far (p := ⟨gb, 0, none⟩) (Kd.R_types (Kd.R_lower HR5.out HB4.out.size) BX5.out (by decide)) (fun _ hk => hk.2) _) (fun _ hk => hk.2) _ |> fun h_ => Kd.R_mono h_ (fun _ _ => trivial), below_set (below_set (below_step HB4.out HB5.out) (Nat.le_of_eq HGB.out.symm)) (Nat.le_of_eq HGB.out.symm)⟩

end Go.Proofs.Ytpcckoljocpchaa.QFnAddPick
