-- Written by a program of this session (mk.py). Lean checks it.
import Derived.Test.YtcmpngglnpjgdaaQFnSharedAtomsx0
import Derived.Test.YtcmpngglnpjgdaaQFnSharedAtomsx5
import Derived.Test.YtcmpngglnpjgdaaQFnSharedAtomsx6
namespace Go.Proofs.Ytcmpngglnpjgdaa.QFnSharedAtoms
open Go.RowKit Go.Proofs.YtcmpngglnpjgdaaW.PrintWords Go.Proofs.YtcmpngglnpjgdaaW.PrintLast Go.Proofs.YtcmpngglnpjgdaaW.PrintMore
attribute [local go_sem] max2_int min2_int max_two min_two max_three min_three max_four min_four   -- for this text's walks alone
set_option linter.unusedVariables false
set_option linter.unusedSimpArgs false

/-! ### impl_AtomsOf: function 32 -/
def impl_AtomsOf.j0 : Nat → Int → Int → Bool → Int → List (List Int) → Option (List Int)
 | 0, _, _, _, _, _ => none
 | k + 1, x1, x2, x23, x345000, x345001 => if x23 = true then (some ([] : List Int)) else (if 0 ≤ x1 then (if x1 ≤ x2 then (if x2 ≤ (x345001.length : Int) then ((impl_atomsIn.f k x345000 ((x345001.take (x2 : Int).toNat).drop (x1 : Int).toNat)).bind fun t352 => ((impl_listOf.f k t352).bind fun t355 => (some t355))) else (none)) else (none)) else (none))
def impl_AtomsOf.f (k : Nat) (a0_0 : Int) (l0_1 : List (List Int)) (a1 : Int) (a2 : Int) : Option (List Int) := (impl_ClausesValid.f k a0_0 l0_1).bind fun t345 => (if t345 = true then ((impl_in.f a2 0 (l0_1.length : Int)).bind fun t346 => (if t346 = true then ((impl_in.f a1 0 a2).bind fun t347 => (impl_AtomsOf.j0 k a1 a2 (!t347) a0_0 l0_1)) else (impl_AtomsOf.j0 k a1 a2 true a0_0 l0_1))) else (impl_AtomsOf.j0 k a1 a2 true a0_0 l0_1))
theorem impl_AtomsOf.mono_l : ∀ k, (∀ y0 y1 y2 y3 y4, LeO (impl_AtomsOf.j0 k y0 y1 y2 y3 y4) (impl_AtomsOf.j0 (k + 1) y0 y1 y2 y3 y4))
 | 0 => fun _ _ _ _ _ r h => by simp [impl_AtomsOf.j0] at h
 | k + 1 => by
  have ih0 := impl_AtomsOf.mono_l k
  ·intro y0 y1 y2 y3 y4
   unfold impl_AtomsOf.j0
   repeat' first
   | (with_reducible exact ih0 _ _ _ _ _)
   | (with_reducible exact impl_ClausesValid.mono _ _ _)
   | (with_reducible exact impl_atomsIn.mono _ _ _)
   | (with_reducible exact impl_listOf.mono _ _)
   | (with_reducible exact LeO.refl _)
   | (with_reducible exact LeO.none _)
   | (with_reducible refine LeO.ite ?_ ?_)
   | (with_reducible refine LeO.bind ?_ (fun _ => ?_))
   | exact ih0 _ _ _ _ _
   | exact impl_ClausesValid.mono _ _ _
   | exact impl_atomsIn.mono _ _ _
   | exact impl_listOf.mono _ _
   | exact LeO.none _
   | refine LeO.ite ?_ ?_
   | refine LeO.bind ?_ (fun _ => ?_)
theorem impl_AtomsOf.mono : ∀ a0 a1 a2 a3 k, LeO (impl_AtomsOf.f k a0 a1 a2 a3) (impl_AtomsOf.f (k + 1) a0 a1 a2 a3) := by
 intro a0 a1 a2 a3 k
 have ih0 := impl_AtomsOf.mono_l k
 unfold impl_AtomsOf.f
 repeat' first
   | (with_reducible exact ih0 _ _ _ _ _)
   | (with_reducible exact impl_ClausesValid.mono _ _ _)
   | (with_reducible exact impl_atomsIn.mono _ _ _)
   | (with_reducible exact impl_listOf.mono _ _)
   | (with_reducible exact LeO.refl _)
   | (with_reducible exact LeO.none _)
   | (with_reducible refine LeO.ite ?_ ?_)
   | (with_reducible refine LeO.bind ?_ (fun _ => ?_))
   | exact ih0 _ _ _ _ _
   | exact impl_ClausesValid.mono _ _ _
   | exact impl_atomsIn.mono _ _ _
   | exact impl_listOf.mono _ _
   | exact LeO.none _
   | refine LeO.ite ?_ ?_
   | refine LeO.bind ?_ (fun _ => ?_)
def impl_AtomsOf.T3 : Bool × List (List Nat × List Nat) := (true, [([], []), ([0], [0]), ([], []), ([2], [2]), ([], []), ([], []), ([3, 4, 5], [3, 4, 5]), ([1, 6], [1, 6]), ([7, 7], [7]), ([8, 8, 0, 1, 2, 3, 4, 5, 6, 7, 8], [8])])
def impl_AtomsOf.B3 : List Nat := [0, 1, 0, 4, 0, 0, 60, 127, 255, 511]
theorem impl_AtomsOf.tab3 : rtab .any (opsOf Try.f32 3) = impl_AtomsOf.T3 := by kernel_rfl
theorem impl_AtomsOf.bits3 : waitsOk impl_AtomsOf.T3.2 impl_AtomsOf.B3 = true := by kernel_rfl
set_option maxHeartbeats 8000000 in
set_option maxRecDepth 100000 in
theorem impl_AtomsOf.calls (k : Nat) (a0_0 : Int) (A0_1 : Option Addr) (c0_1 : Nat) (l0_1 : List (List Int)) (a1 : Int) (a2 : Int) (r : List Int) (w : World) (hr0_1 : Kd.C (Kd.slice 3 (Kd.int .i64)) w A0_1 l0_1.length l0_1) (hc0_1 : l0_1.length ≤ c0_1) (h : impl_AtomsOf.f k a0_0 l0_1 a1 a2 = some r) :
  Calls Try.prog 32 #[.agg #[.int .i64 a0_0, .slice A0_1 l0_1.length c0_1], .int .i64 a1, .int .i64 a2] w fun e w' => ∃ v0_ : Value, e = .returned (v0_) ∧ Kd.R (Kd.int .i64) 3 w' w.heap.size (fun _ => True) v0_ r ∧ Below w.heap.size w w' := by
 have hu49 := Try.underlying49
 have HR0_1 := Aside0.mk hr0_1
 have HC0_1 := Aside0.mk hc0_1
 clear hr0_1 hc0_1
 have HB := Aside0.mk (Below.refl w.heap.size w)
 have H : ((impl_ClausesValid.f k a0_0 l0_1).bind fun t345 => (if t345 = true then ((impl_in.f a2 0 (l0_1.length : Int)).bind fun t346 => (if t346 = true then ((impl_in.f a1 0 a2).bind fun t347 => (impl_AtomsOf.j0 k a1 a2 (!t347) a0_0 l0_1)) else (impl_AtomsOf.j0 k a1 a2 true a0_0 l0_1))) else (impl_AtomsOf.j0 k a1 a2 true a0_0 l0_1))) = some r := h
 clear h
 have HC4 := Aside0.mk H
 clear H
 go_enter Try.func32, Try.ntmps32
 go_upto_region 1 with (first | ((with_reducible refine gate_dst (N := 3) rfl ?_); (try (refine gate_guard (by rfl) ?_; dsimp only)); refine box_event ?hg (N := 3) ?hd (cs := #[.int .i64 a0_0, .slice A0_1 l0_1.length c0_1]) (t := 49) ?hr ?_; (case hd => rfl); (case hg => rfl); (case hr => first | (go_simp; done) | (go_simp; rfl)); intro gb344 hg w5 hbox hb; have n0_ := Aside0.mk (below_step (by repeat (first | (with_reducible first | exact HB.out | apply bwA | apply bwN | apply bwD) | exact HB.out)) hb); have n1_ := Aside0.mk (hbox); have n2_ := Aside0.mk ((by rw [hg]; exact (below_size (by repeat (first | (with_reducible first | exact HB.out | apply bwA | apply bwN | apply bwD) | exact HB.out))) : w.heap.size ≤ gb344)); have n3_ := Aside0.mk ((by rw [hg]; exact (below_size (by repeat (first | (with_reducible first | exact HB.out | apply bwA | apply bwN | apply bwD) | exact HB.out))) : w.heap.size ≤ gb344)); clear HB; have HB := n0_; have BK344 := n1_; have GW344 := n2_; have GE344 := n3_; clear n0_ n1_ n2_ n3_; clear hb hbox hg))
 (try simp only [Act.put, List.setIfInBounds_toArray, List.set_cons_zero, List.set_cons_succ])
 go_cut [23] (fun v23 wc => ∃ (kq : Nat) (x23_3 : Bool), v23 = .bool x23_3 ∧ Aside0 (impl_AtomsOf.j0 kq a1 a2 x23_3 a0_0 l0_1 = some r) ∧ Aside0 (kq ≤ k) ∧ Aside0 (wc.heap[gb344]? = some (.cells #[.int .i64 a0_0, (.slice A0_1 l0_1.length c0_1)] 49 (0, 0))) ∧ Aside0 (Below w.heap.size w wc))
 case first =>
  have H := HC4.out
  clear HC4
  replace H := Option.bind_eq_some_iff.mp H
  obtain ⟨t345, A60, H⟩ := H
  replace H : (if t345 = true then ((impl_in.f a2 0 (l0_1.length : Int)).bind fun t346 => (if t346 = true then ((impl_in.f a1 0 a2).bind fun t347 => (impl_AtomsOf.j0 k a1 a2 (!t347) a0_0 l0_1)) else (impl_AtomsOf.j0 k a1 a2 true a0_0 l0_1))) else (impl_AtomsOf.j0 k a1 a2 true a0_0 l0_1)) = some r := H
  have A6 := Aside0.mk A60
  clear A60
  by_cases c7 : t345 = true
  ·subst c7
   have H1 : ((impl_in.f a2 0 (l0_1.length : Int)).bind fun t346 => (if t346 = true then ((impl_in.f a1 0 a2).bind fun t347 => (impl_AtomsOf.j0 k a1 a2 (!t347) a0_0 l0_1)) else (impl_AtomsOf.j0 k a1 a2 true a0_0 l0_1))) = some r := by rw [if_pos rfl] at H; exact H
   clear H
   have H := H1
   clear H1
   replace H := Option.bind_eq_some_iff.mp H
   obtain ⟨t346, A80, H⟩ := H
   replace H : (if t346 = true then ((impl_in.f a1 0 a2).bind fun t347 => (impl_AtomsOf.j0 k a1 a2 (!t347) a0_0 l0_1)) else (impl_AtomsOf.j0 k a1 a2 true a0_0 l0_1)) = some r := H
   have A8 := Aside0.mk A80
   clear A80
   by_cases c9 : t346 = true
   ·subst c9
    have H1 : ((impl_in.f a1 0 a2).bind fun t347 => (impl_AtomsOf.j0 k a1 a2 (!t347) a0_0 l0_1)) = some r := by rw [if_pos rfl] at H; exact H
    clear H
    have H := H1
    clear H1
    replace H := Option.bind_eq_some_iff.mp H
    obtain ⟨t347, A100, H⟩ := H
    replace H : (impl_AtomsOf.j0 k a1 a2 (!t347) a0_0 l0_1) = some r := H
    have A10 := Aside0.mk A100
    clear A100
    have H' := Aside0.mk H
    clear H
    have hcz11_0 : w5.cell? ⟨gb344, 0, none⟩ = some (.int .i64 a0_0) := (blk_cell BK344.out 0).trans rfl
    have hcz11_1 : w5.cell? ⟨gb344, 1, none⟩ = some (.slice A0_1 l0_1.length c0_1) := (blk_cell BK344.out 1).trans rfl
    have hfz11_0 := blk_frozen BK344.out 0
    have hfz11_1 := blk_frozen BK344.out 1
    go_wp2_with (first | ((with_reducible refine gate_callee (f := 30) rfl ?_); refine goesL_ (some 8) rfl rfl Try.func30 (by kernel_rfl) rfl #[.agg #[.int .i64 a0_0, .slice A0_1 l0_1.length c0_1]] rfl (by (try simp only [List.map_toArray, List.map_cons, List.map_nil]); first | done | rfl | (simp only [List.length_drop, List.length_take]; rfl)) ?_; (with_reducible refine (impl_ClausesValid.calls k a0_0 _ _ l0_1 true _ ?side1 ?side2 A6.out).mono ?_); (case side1 => repeat (first | exact (Kd.C_below HR0_1.out HB.out) | (with_reducible refine Kd.C_alloc ?_ _) | (with_reducible refine Kd.C_drewN ?_ _) | (with_reducible refine Kd.C_drew ?_))); (case side2 => exact HC0_1.out); rintro e w12 ⟨rfl, hb⟩; refine ⟨_, rfl, ?_⟩; have n0_ := Aside0.mk (blk_below (g := gb344) (o := .cells #[.int .i64 a0_0, .slice A0_1 l0_1.length c0_1] 49 (0, 0)) (by (with_reducible repeat (first | refine blk_drewN ?_ _ | refine blk_drew ?_ | refine blk_alloc ?_ _)); exact BK344.out) hb); have n1_ := Aside0.mk (below_step (by repeat (first | (with_reducible first | exact HB.out | apply bwA | apply bwN | apply bwD | refine below_set ?_ GE344.out) | exact HB.out)) hb); clear BK344; clear HB; have BK344 := n0_; have HB := n1_; clear n0_ n1_; (try clear hb); (try clear hb2); (try clear hk); (try clear hi); have hcz13_0 : w12.cell? ⟨gb344, 0, none⟩ = some (.int .i64 a0_0) := (blk_cell BK344.out 0).trans rfl; have hcz13_1 : w12.cell? ⟨gb344, 1, none⟩ = some (.slice A0_1 l0_1.length c0_1) := (blk_cell BK344.out 1).trans rfl; have hfz13_0 := blk_frozen BK344.out 0; have hfz13_1 := blk_frozen BK344.out 1) | (go_at_call 41; (with_reducible refine (impl_in.calls a2 0 (l0_1.length : Int) true _ A8.out).mono ?_); rintro e w' ⟨rfl, ⟨nd, rfl⟩⟩) | (go_at_call 41; (with_reducible refine (impl_in.calls a1 0 a2 t347 _ A10.out).mono ?_); rintro e w' ⟨rfl, ⟨nd, rfl⟩⟩))
    go_meet
    case rel => exact ⟨_, (!t347), (by first | rfl | (simp; done) | (simp [*]; done)), H', ⟨by first | omega | exact Nat.le_refl _⟩, ⟨by (with_reducible repeat (first | refine blk_drewN ?_ _ | refine blk_drew ?_ | refine blk_alloc ?_ _)); exact BK344.out⟩, ⟨by repeat (first | (with_reducible first | exact HB.out | apply bwA | apply bwN | apply bwD | refine below_set ?_ GE344.out) | exact HB.out)⟩⟩
   ·replace c9 := Bool.eq_false_iff.mpr c9
    subst c9
    have H1 : (impl_AtomsOf.j0 k a1 a2 true a0_0 l0_1) = some r := by rw [if_neg (show ¬ (false = true) by decide)] at H; exact H
    clear H
    have H := H1
    clear H1
    have H' := Aside0.mk H
    clear H
    have hcz14_0 : w5.cell? ⟨gb344, 0, none⟩ = some (.int .i64 a0_0) := (blk_cell BK344.out 0).trans rfl
    have hcz14_1 : w5.cell? ⟨gb344, 1, none⟩ = some (.slice A0_1 l0_1.length c0_1) := (blk_cell BK344.out 1).trans rfl
    have hfz14_0 := blk_frozen BK344.out 0
    have hfz14_1 := blk_frozen BK344.out 1
    go_wp2_with (first | ((with_reducible refine gate_callee (f := 30) rfl ?_); refine goesL_ (some 8) rfl rfl Try.func30 (by kernel_rfl) rfl #[.agg #[.int .i64 a0_0, .slice A0_1 l0_1.length c0_1]] rfl (by (try simp only [List.map_toArray, List.map_cons, List.map_nil]); first | done | rfl | (simp only [List.length_drop, List.length_take]; rfl)) ?_; (with_reducible refine (impl_ClausesValid.calls k a0_0 _ _ l0_1 true _ ?side1 ?side2 A6.out).mono ?_); (case side1 => repeat (first | exact (Kd.C_below HR0_1.out HB.out) | (with_reducible refine Kd.C_alloc ?_ _) | (with_reducible refine Kd.C_drewN ?_ _) | (with_reducible refine Kd.C_drew ?_))); (case side2 => exact HC0_1.out); rintro e w15 ⟨rfl, hb⟩; refine ⟨_, rfl, ?_⟩; have n0_ := Aside0.mk (blk_below (g := gb344) (o := .cells #[.int .i64 a0_0, .slice A0_1 l0_1.length c0_1] 49 (0, 0)) (by (with_reducible repeat (first | refine blk_drewN ?_ _ | refine blk_drew ?_ | refine blk_alloc ?_ _)); exact BK344.out) hb); have n1_ := Aside0.mk (below_step (by repeat (first | (with_reducible first | exact HB.out | apply bwA | apply bwN | apply bwD | refine below_set ?_ GE344.out) | exact HB.out)) hb); clear BK344; clear HB; have BK344 := n0_; have HB := n1_; clear n0_ n1_; (try clear hb); (try clear hb2); (try clear hk); (try clear hi); have hcz16_0 : w15.cell? ⟨gb344, 0, none⟩ = some (.int .i64 a0_0) := (blk_cell BK344.out 0).trans rfl; have hcz16_1 : w15.cell? ⟨gb344, 1, none⟩ = some (.slice A0_1 l0_1.length c0_1) := (blk_cell BK344.out 1).trans rfl; have hfz16_0 := blk_frozen BK344.out 0; have hfz16_1 := blk_frozen BK344.out 1) | (go_at_call 41; (with_reducible refine (impl_in.calls a2 0 (l0_1.length : Int) false _ A8.out).mono ?_); rintro e w' ⟨rfl, ⟨nd, rfl⟩⟩))
    go_meet
    case rel => exact ⟨_, (true), (by first | rfl | (simp; done) | (simp [*]; done)), H', ⟨by first | omega | exact Nat.le_refl _⟩, ⟨by (with_reducible repeat (first | refine blk_drewN ?_ _ | refine blk_drew ?_ | refine blk_alloc ?_ _)); exact BK344.out⟩, ⟨by repeat (first | (with_reducible first | exact HB.out | apply bwA | apply bwN | apply bwD | refine below_set ?_ GE344.out) | exact HB.out)⟩⟩
  ·replace c7 := Bool.eq_false_iff.mpr c7
   subst c7
   have H1 : (impl_AtomsOf.j0 k a1 a2 true a0_0 l0_1) = some r := by rw [if_neg (show ¬ (false = true) by decide)] at H; exact H
   clear H
   have H := H1
   clear H1
   have H' := Aside0.mk H
   clear H
   have hcz17_0 : w5.cell? ⟨gb344, 0, none⟩ = some (.int .i64 a0_0) := (blk_cell BK344.out 0).trans rfl
   have hcz17_1 : w5.cell? ⟨gb344, 1, none⟩ = some (.slice A0_1 l0_1.length c0_1) := (blk_cell BK344.out 1).trans rfl
   have hfz17_0 := blk_frozen BK344.out 0
   have hfz17_1 := blk_frozen BK344.out 1
   go_wp2_with (first | ((with_reducible refine gate_callee (f := 30) rfl ?_); refine goesL_ (some 8) rfl rfl Try.func30 (by kernel_rfl) rfl #[.agg #[.int .i64 a0_0, .slice A0_1 l0_1.length c0_1]] rfl (by (try simp only [List.map_toArray, List.map_cons, List.map_nil]); first | done | rfl | (simp only [List.length_drop, List.length_take]; rfl)) ?_; (with_reducible refine (impl_ClausesValid.calls k a0_0 _ _ l0_1 false _ ?side1 ?side2 A6.out).mono ?_); (case side1 => repeat (first | exact (Kd.C_below HR0_1.out HB.out) | (with_reducible refine Kd.C_alloc ?_ _) | (with_reducible refine Kd.C_drewN ?_ _) | (with_reducible refine Kd.C_drew ?_))); (case side2 => exact HC0_1.out); rintro e w18 ⟨rfl, hb⟩; refine ⟨_, rfl, ?_⟩; have n0_ := Aside0.mk (blk_below (g := gb344) (o := .cells #[.int .i64 a0_0, .slice A0_1 l0_1.length c0_1] 49 (0, 0)) (by (with_reducible repeat (first | refine blk_drewN ?_ _ | refine blk_drew ?_ | refine blk_alloc ?_ _)); exact BK344.out) hb); have n1_ := Aside0.mk (below_step (by repeat (first | (with_reducible first | exact HB.out | apply bwA | apply bwN | apply bwD | refine below_set ?_ GE344.out) | exact HB.out)) hb); clear BK344; clear HB; have BK344 := n0_; have HB := n1_; clear n0_ n1_; (try clear hb); (try clear hb2); (try clear hk); (try clear hi)))
   go_meet
   case rel => exact ⟨_, (true), (by first | rfl | (simp; done) | (simp [*]; done)), H', ⟨by first | omega | exact Nat.le_refl _⟩, ⟨by (with_reducible repeat (first | refine blk_drewN ?_ _ | refine blk_drew ?_ | refine blk_alloc ?_ _)); exact BK344.out⟩, ⟨by repeat (first | (with_reducible first | exact HB.out | apply bwA | apply bwN | apply bwD | refine below_set ?_ GE344.out) | exact HB.out)⟩⟩
 case rest =>
  clear HC4
  try clear p2
  try clear c3
  try clear c7
  try clear c9
  try clear hcz11_0
  try clear hcz11_1
  try clear hcz13_0
  try clear hcz13_1
  try clear hcz14_0
  try clear hcz14_1
  try clear hcz16_0
  try clear hcz16_1
  try clear hcz17_0
  try clear hcz17_1
  try clear hfz11_0
  try clear hfz11_1
  try clear hfz13_0
  try clear hfz13_1
  try clear hfz14_0
  try clear hfz14_1
  try clear hfz16_0
  try clear hfz16_1
  try clear hfz17_0
  try clear hfz17_1
  obtain ⟨kq, x23_3, rfl, HA, HJ3, BK344, HB⟩ := hcut
  cases kq with
  | zero => exact absurd HA.out (by simp [impl_AtomsOf.j0])
  | succ kj3 =>
   have H := HA.out
   clear HA
   simp only [impl_AtomsOf.j0] at H
   by_cases c19 : x23_3 = true
   ·subst c19
    have H1 : (some ([] : List Int)) = some r := by rw [if_pos rfl] at H; exact H
    clear H
    have H := H1
    clear H1
    obtain rfl := Option.some.inj H
    go_wp2
    go_ret
    exact ⟨_, by first | rfl | (simp [errW_none, errW_some] <;> rfl) | (simp [*, errW_none, errW_some] <;> rfl), by first | exact Kd.R_nil _ _ _ _ _ | exact Kd.N_nil _ _ _ _ _ | exact Kd.V_nil _ _ _ _ _ | exact Kd.Q_nil _ _ _ _ _ | exact Kd.S_nil _ _ _ _ _, by repeat (first | (with_reducible first | exact HB.out | apply bwA | apply bwN | apply bwD | refine below_set ?_ GE344.out) | exact HB.out)⟩
   ·replace c19 := Bool.eq_false_iff.mpr c19
    subst c19
    have H1 : (if 0 ≤ a1 then (if a1 ≤ a2 then (if a2 ≤ (l0_1.length : Int) then ((impl_atomsIn.f kj3 a0_0 ((l0_1.take (a2 : Int).toNat).drop (a1 : Int).toNat)).bind fun t352 => ((impl_listOf.f kj3 t352).bind fun t355 => (some t355))) else (none)) else (none)) else (none)) = some r := by rw [if_neg (show ¬ (false = true) by decide)] at H; exact H
    clear H
    have H := H1
    clear H1
    by_cases c20 : 0 ≤ a1
    ·rw [if_pos c20] at H
     have c20b0 := eq_true c20
     have c20b1 : decide (0 ≤ a1) = true := decide_eq_true c20
     clear c20
     by_cases c21 : a1 ≤ a2
     ·rw [if_pos c21] at H
      have c21b0 := eq_true c21
      have c21b1 : decide (a1 ≤ a2) = true := decide_eq_true c21
      clear c21
      by_cases c22 : a2 ≤ (l0_1.length : Int)
      ·rw [if_pos c22] at H
       have c22b0 := eq_true c22
       have c22b1 : decide (a2 ≤ (l0_1.length : Int)) = true := decide_eq_true c22
       clear c22
       obtain ⟨y348, hy348⟩ : ∃ y_ : List (List Int), y_ = ((l0_1.take (a2 : Int).toNat).drop (a1 : Int).toNat) := ⟨_, rfl⟩
       replace H : ((impl_atomsIn.f kj3 a0_0 y348).bind fun t352 => ((impl_listOf.f kj3 t352).bind fun t355 => (some t355))) = some r := by first | (rw [hy348]; with_reducible exact H) | (have H2_ := (Option.bind_some _ _).symm.trans H; rw [hy348]; with_reducible exact H2_) | (have H2_ := (Option.bind_some _ _).symm.trans H; with_reducible exact H2_) | with_reducible exact H | (rw [hy348]; exact H) | exact H
       have Ny348 := Aside0.mk hy348
       clear hy348
       replace H := Option.bind_eq_some_iff.mp H
       obtain ⟨t352, A230, H⟩ := H
       replace H : ((impl_listOf.f kj3 t352).bind fun t355 => (some t355)) = some r := H
       have A23 := Aside0.mk A230
       clear A230
       replace H := Option.bind_eq_some_iff.mp H
       obtain ⟨t355, A240, H⟩ := H
       replace H : (some t355) = some r := H
       have A24 := Aside0.mk A240
       clear A240
       obtain rfl := Option.some.inj H
       try go_wp2
       have n0_ := Aside0.mk (blk_drew BK344.out)
       have n1_ := Aside0.mk (below_drew1 HB.out)
       clear BK344
       clear HB
       have BK344 := n0_
       have HB := n1_
       clear n0_ n1_
       have q26 : (a2 : Int) ≤ ((l0_1.length : Int) : Int) := of_decide_eq_true (by first | (with_reducible assumption) | assumption)
       obtain ⟨i026, hi026, _, hsz26, _⟩ := info_parts info46
       have hroom26 : l0_1.length ≤ c0_1 := HC0_1.out
       have hC26 : Kd.C (Kd.slice 3 (Kd.int .i64)) _ A0_1 l0_1.length l0_1 := HR0_1.out
       have ql26 : (a1 : Int) ≤ (a2 : Int) := of_decide_eq_true (by first | (with_reducible assumption) | assumption)
       have q026 : (0 : Int) ≤ (a1 : Int) := of_decide_eq_true (by first | (with_reducible assumption) | assumption)
       have hcut26 := cut_mid (P := Try.prog) 22 46 .i64 .i64 Try.underlying22 hi026 1 hsz26 A0_1 l0_1.length c0_1 a1 a2 q026 ql26 q26 hroom26
       have hr26 := Kd.C_mid (lo := (a1 : Int).toNat) (hi := (a2 : Int).toNat) (c := c0_1) hC26 (by omega) (by omega) hroom26
       obtain ⟨A26, hA26⟩ : ∃ A1, A1 = (if c0_1 = (a1 : Int).toNat then A0_1 else (A0_1 : Option Addr).map (·.add ((a1 : Int).toNat * 1))) := ⟨_, rfl⟩
       obtain ⟨c26, hc26⟩ : ∃ c1, c1 = c0_1 - (a1 : Int).toNat := ⟨_, rfl⟩
       have hy26 : y348.length = (a2 : Int).toNat - (a1 : Int).toNat := (by rw [Ny348.out, List.length_drop, List.length_take] <;> omega)
       rw [show ((l0_1).take (a2 : Int).toNat).drop (a1 : Int).toNat = y348 from Ny348.out.symm] at hr26
       replace hr26 : Kd.C (Kd.slice 3 (Kd.int .i64)) _ A26 y348.length y348 := (by rw [hA26]; exact hr26)
       rw [← hy26, ← hA26, ← hc26] at hcut26
       have HR351 := Aside0.mk hr26
       have HC351 := Aside0.mk (show y348.length ≤ c26 from by rw [hy26, hc26]; exact Nat.sub_le_sub_right (Nat.le_trans (by omega) hroom26) _)
       clear hr26 hC26 hroom26 hi026 hsz26 hc26
       have KY26 := Aside0.mk hy26
       have KA26 := Aside0.mk hA26
       clear hy26 hA26
       replace q26 := eq_true q26
       refine start_ (n := 10) (S := fun w' => w'.cell? ⟨gb344, 0, none⟩ = some (.int .i64 a0_0) ∧ w'.cell? ⟨gb344, 1, none⟩ = some (.slice A0_1 l0_1.length c0_1)) (ds := []) #[false, false, false, false, false, false, false, false, false, false] (by kernel_rfl) rfl rfl ⟨(blk_cell BK344.out 0).trans rfl, (blk_cell BK344.out 1).trans rfl⟩ (fun hHeld => ?_); refine with_tabW impl_AtomsOf.tab3 impl_AtomsOf.bits3 (fun HT_ HW_ => ?_)
       generalize wc.drew = w25 at BK344 HB HR351 hHeld ⊢
       refine pure_ (i := 0) (N := some 24) (v := ?_) (a' := ?_) #[true, false, false, false, false, false, false, false, false, false] rfl rfl (any_of HT_.out (by kernel_rfl)) (fun _ _ _ h => h) (Or.inl ⟨by rfl, ?_⟩) ?_ ?_
       rotate_left
       ·intro w'
        go_simp
        with_reducible rfl
       rotate_left
       ·simp only [Act.put, List.setIfInBounds_toArray, List.set_cons_zero, List.set_cons_succ, i64_w, i32_w]
        rfl
       refine pure_ (i := 2) (N := some 26) (v := ?_) (a' := ?_) #[true, false, true, false, false, false, false, false, false, false] rfl rfl (any_of HT_.out (by kernel_rfl)) (fun _ _ _ h => h) (Or.inl ⟨by rfl, ?_⟩) ?_ ?_
       rotate_left
       ·intro w'
        go_simp
        with_reducible rfl
       rotate_left
       ·simp only [Act.put, List.setIfInBounds_toArray, List.set_cons_zero, List.set_cons_succ, i64_w, i32_w]
        rfl
       refine pure_ (i := 4) (N := some 28) (v := ?_) (a' := ?_) #[true, false, true, false, true, false, false, false, false, false] rfl rfl (any_of HT_.out (by kernel_rfl)) (fun _ _ _ h => h) (Or.inl ⟨by rfl, ?_⟩) ?_ ?_
       rotate_left
       ·intro w'
        go_simp
        with_reducible rfl
       rotate_left
       ·simp only [Act.put, List.setIfInBounds_toArray, List.set_cons_zero, List.set_cons_succ, i64_w, i32_w]
        rfl
       refine pure_ (i := 5) (N := some 29) (v := ?_) (a' := ?_) #[true, false, true, false, true, true, false, false, false, false] rfl rfl (any_of HT_.out (by kernel_rfl)) (fun _ _ _ h => h) (Or.inl ⟨by rfl, ?_⟩) ?_ ?_
       rotate_left
       ·intro w'
        go_simp
        with_reducible rfl
       rotate_left
       ·simp only [Act.put, List.setIfInBounds_toArray, List.set_cons_zero, List.set_cons_succ, i64_w, i32_w]
        rfl
       refine take_ (i := 1) (N := some 25) (v := ?_) (a' := ?_) #[true, true, true, false, true, true, false, false, false, false] rfl rfl (take_ofW HT_.out HW_.out (by kernel_rfl)) (fun _ _ _ h => h) (Or.inl ⟨by rfl, ?_⟩) hHeld ?_ ?_
       rotate_left
       ·rintro w' ⟨s0, s1⟩
        go_simp
        with_reducible rfl
       rotate_left
       ·simp only [Act.put, List.setIfInBounds_toArray, List.set_cons_zero, List.set_cons_succ, i64_w, i32_w]
        rfl
       refine take_ (i := 3) (N := some 27) (v := ?_) (a' := ?_) #[true, true, true, true, true, true, false, false, false, false] rfl rfl (take_ofW HT_.out HW_.out (by kernel_rfl)) (fun _ _ _ h => h) (Or.inl ⟨by rfl, ?_⟩) hHeld ?_ ?_
       rotate_left
       ·rintro w' ⟨s0, s1⟩
        go_simp
        with_reducible rfl
       rotate_left
       ·simp only [Act.put, List.setIfInBounds_toArray, List.set_cons_zero, List.set_cons_succ, i64_w, i32_w]
        rfl
       refine pure_ (i := 6) (N := some 30) (v := ?_) (a' := ?_) #[true, true, true, true, true, true, true, false, false, false] rfl rfl (any_of HT_.out (by kernel_rfl)) (fun _ _ _ h => h) (Or.inl ⟨by rfl, ?_⟩) ?_ ?_
       rotate_left
       ·intro w'
        go_simp
        with_reducible rfl
       rotate_left
       ·simp only [Act.put, List.setIfInBounds_toArray, List.set_cons_zero, List.set_cons_succ, i64_w, i32_w]
        rfl
       refine one_ (i := 7) (N := some 31) #[true, true, true, true, true, true, true, true, false, false] rfl rfl (one_of HT_.out (by kernel_rfl)) (by decide) (fun K hK => ?_)
       refine goes_ Try.func73 (by kernel_rfl) rfl #[.int .i64 a0_0, .slice A26 y348.length c26] (by rfl) rfl rfl (by (try simp only [List.map_toArray, List.map_cons, List.map_nil]); first | done | rfl | (simp only [List.length_drop, List.length_take]; rfl)) ?_
       with_reducible refine (impl_atomsIn.calls kj3 a0_0 _ _ y348 t352 _ ?side1 ?side2 A23.out).mono ?_
       (case side1 => repeat (first | exact (Kd.C_below HR351.out HB.out) | (with_reducible refine Kd.C_alloc ?_ _) | (with_reducible refine Kd.C_drewN ?_ _) | (with_reducible refine Kd.C_drew ?_)))
       (case side2 => exact HC351.out)
       rintro e w27 ⟨v353, rfl, ho0, hb⟩
       refine ⟨_, rfl, ?_⟩
       have n0_ := Aside0.mk (Kd.R_lower ho0 (below_size (by repeat (first | (with_reducible first | exact HB.out | apply bwA | apply bwN | apply bwD | refine below_set ?_ GE344.out) | exact HB.out))))
       have n1_ := Aside0.mk (blk_below (g := gb344) (o := .cells #[.int .i64 a0_0, .slice A0_1 l0_1.length c0_1] 49 (0, 0)) (by (with_reducible repeat (first | refine blk_drewN ?_ _ | refine blk_drew ?_ | refine blk_alloc ?_ _)); exact BK344.out) hb)
       have n2_ := Aside0.mk (below_step (by repeat (first | (with_reducible first | exact HB.out | apply bwA | apply bwN | apply bwD | refine below_set ?_ GE344.out) | exact HB.out)) hb)
       clear BK344
       clear HB
       have HO354 := n0_
       have BK344 := n1_
       have HB := n2_
       clear n0_ n1_ n2_
       (try clear hb)
       (try clear hb2)
       (try clear hk)
       (try clear hi)
       (try clear ho0)
       obtain ⟨Ao28, co28, eo28⟩ := Kd.R_slice HO354.out
       (first | subst eo28 | (injection eo28 with f1_ f2_ f3_; have f4_ := f1_.symm; have f5_ := f3_.symm; clear f1_ f2_ f3_; subst f4_; subst f5_))
       refine hK.out _ _ ⟨(blk_cell BK344.out 0).trans rfl, (blk_cell BK344.out 1).trans rfl⟩ (fun hHeld => ?_)
       clear hK K
       refine norm_ (a' := ?_) ?_ ?_
       rotate_left
       ·show Act.put _ (some 31) _ = _
        simp only [Act.put, List.setIfInBounds_toArray, List.set_cons_zero, List.set_cons_succ, i64_w, i32_w]
        rfl
       refine one_ (i := 8) (N := some 32) #[true, true, true, true, true, true, true, true, true, false] rfl rfl (one_of HT_.out (by kernel_rfl)) (by decide) (fun K hK => ?_)
       refine goes_ Try.func68 (by kernel_rfl) rfl #[.slice Ao28 t352.length co28] (by rfl) rfl rfl (by (try simp only [List.map_toArray, List.map_cons, List.map_nil]); first | done | rfl | (simp only [List.length_drop, List.length_take]; rfl)) ?_
       with_reducible refine (impl_listOf.calls kj3 _ _ t352 t355 _ ?side1 ?side2 A24.out).mono ?_
       (case side1 => repeat (first | exact (Kd.R_reads' HO354.out).2.2 | (with_reducible refine Kd.C_alloc ?_ _) | (with_reducible refine Kd.C_drewN ?_ _) | (with_reducible refine Kd.C_drew ?_)))
       (case side2 => exact (Kd.R_reads' HO354.out).2.1)
       rintro e w29 ⟨v356, rfl, ho0, hb⟩
       refine ⟨_, rfl, ?_⟩
       have n0_ := Aside0.mk (Kd.R_below (by (with_reducible repeat (first | apply Kd.R_alloc | apply Kd.R_drewN | apply Kd.R_drew)); exact HO354.out) hb)
       have n1_ := Aside0.mk (Kd.R_lower ho0 (below_size (by repeat (first | (with_reducible first | exact HB.out | apply bwA | apply bwN | apply bwD | refine below_set ?_ GE344.out) | exact HB.out))))
       have n2_ := Aside0.mk (blk_below (g := gb344) (o := .cells #[.int .i64 a0_0, .slice A0_1 l0_1.length c0_1] 49 (0, 0)) (by (with_reducible repeat (first | refine blk_drewN ?_ _ | refine blk_drew ?_ | refine blk_alloc ?_ _)); exact BK344.out) hb)
       have n3_ := Aside0.mk (below_step (by repeat (first | (with_reducible first | exact HB.out | apply bwA | apply bwN | apply bwD | refine below_set ?_ GE344.out) | exact HB.out)) hb)
       clear HO354
       clear BK344
       clear HB
       have HO354 := n0_
       have HO357 := n1_
       have BK344 := n2_
       have HB := n3_
       clear n0_ n1_ n2_ n3_
       (try clear hb)
       (try clear hb2)
       (try clear hk)
       (try clear hi)
       (try clear ho0)
       refine hK.out _ _ ⟨(blk_cell BK344.out 0).trans rfl, (blk_cell BK344.out 1).trans rfl⟩ (fun hHeld => ?_)
       clear hK K
       refine norm_ (a' := ?_) ?_ ?_
       rotate_left
       ·show Act.put _ (some 32) _ = _
        simp only [Act.put, List.setIfInBounds_toArray, List.set_cons_zero, List.set_cons_succ, i64_w, i32_w]
        rfl
       refine pure_ (i := 9) (N := some 6) (v := ?_) (a' := ?_) #[true, true, true, true, true, true, true, true, true, true] rfl rfl (any_of HT_.out (by kernel_rfl)) (fun _ _ _ h => h) (Or.inl ⟨by rfl, ?_⟩) ?_ ?_
       rotate_left
       ·intro w'
        go_simp
        with_reducible rfl
       rotate_left
       ·simp only [Act.put, List.setIfInBounds_toArray, List.set_cons_zero, List.set_cons_succ, i64_w, i32_w]
        rfl
       refine done_ (done_of HT_.out (by kernel_rfl)) ?_
       try go_wp2
       go_ret
       exact ⟨_, by first | rfl | (simp [errW_none, errW_some] <;> rfl) | (simp [*, errW_none, errW_some] <;> rfl), by (with_reducible repeat (first | apply Kd.R_alloc | apply Kd.R_drewN | apply Kd.R_drew)); exact HO357.out, by repeat (first | (with_reducible first | exact HB.out | apply bwA | apply bwN | apply bwD | refine below_set ?_ GE344.out) | exact HB.out)⟩
      ·rw [if_neg c22] at H
       exact absurd H (by simp)
     ·rw [if_neg c21] at H
      exact absurd H (by simp)
    ·rw [if_neg c20] at H
     exact absurd H (by simp)

/-! ### laws_wcHas: function 33 -/
def laws_wcHas.l0 : Nat → Int → List Int → Int → Int → Option (Bool)
 | 0, _, _, _, _ => none
 | k + 1, x1, x7, x8, x9 => if x9 < x8 then (if 0 ≤ x9 then (if x9 < (x7.length : Int) then (if (rd x7 x9) = x1 then (some true) else (laws_wcHas.l0 k x1 x7 x8 (wrap64 (x9 + 1)))) else (none)) else (none)) else (some false)
def laws_wcHas.f (k : Nat) (l0 : List Int) (a1 : Int) : Option (Bool) := laws_wcHas.l0 k a1 l0 (l0.length : Int) 0
theorem laws_wcHas.mono_l : ∀ k, (∀ y0 y1 y2 y3, LeO (laws_wcHas.l0 k y0 y1 y2 y3) (laws_wcHas.l0 (k + 1) y0 y1 y2 y3))
 | 0 => fun _ _ _ _ r h => by simp [laws_wcHas.l0] at h
 | k + 1 => by
  have ih0 := laws_wcHas.mono_l k
  ·intro y0 y1 y2 y3
   unfold laws_wcHas.l0
   repeat' first
   | (with_reducible exact ih0 _ _ _ _)
   | (with_reducible exact LeO.refl _)
   | (with_reducible exact LeO.none _)
   | (with_reducible refine LeO.ite ?_ ?_)
   | (with_reducible refine LeO.bind ?_ (fun _ => ?_))
   | exact ih0 _ _ _ _
   | exact LeO.none _
   | refine LeO.ite ?_ ?_
   | refine LeO.bind ?_ (fun _ => ?_)
theorem laws_wcHas.mono : ∀ a0 a1 k, LeO (laws_wcHas.f k a0 a1) (laws_wcHas.f (k + 1) a0 a1) := by
 intro a0 a1 k
 have ih0 := laws_wcHas.mono_l k
 unfold laws_wcHas.f
 repeat' first
   | (with_reducible exact ih0 _ _ _ _)
   | (with_reducible exact LeO.refl _)
   | (with_reducible exact LeO.none _)
   | (with_reducible refine LeO.ite ?_ ?_)
   | (with_reducible refine LeO.bind ?_ (fun _ => ?_))
   | exact ih0 _ _ _ _
   | exact LeO.none _
   | refine LeO.ite ?_ ?_
   | refine LeO.bind ?_ (fun _ => ?_)
set_option maxHeartbeats 8000000 in
set_option maxRecDepth 100000 in
theorem laws_wcHas.calls (k : Nat) (A0 : Option Addr) (c0 : Nat) (l0 : List Int) (a1 : Int) (r : Bool) (w : World) (hr0 : Kd.C (Kd.int .i64) w A0 l0.length l0) (hc0 : l0.length ≤ c0) (h : laws_wcHas.f k l0 a1 = some r) :
  Calls Try.prog 33 #[.slice A0 l0.length c0, .int .i64 a1] w fun e w' => e = .returned (.bool r) ∧ Drawn0 w w' := by
 have HR0 := Aside0.mk hr0
 have HC0 := Aside0.mk hc0
 clear hr0 hc0
 have H : (laws_wcHas.l0 k a1 l0 (l0.length : Int) 0) = some r := h
 clear h
 have H' := Aside0.mk H
 clear H
 go_enter Try.func33, Try.ntmps33
 go_wp2
 go_loopg [9] k (fun kq v9 w' => ∃ (x9_1 : Int), v9 = .int .i64 x9_1 ∧ Aside0 (laws_wcHas.l0 kq a1 l0 (l0.length : Int) x9_1 = some r) ∧ Aside0 (kq ≤ k) ∧ Drawn0 w w')
 case atStart => exact ⟨(0), (by first | rfl | (simp; done) | (simp [*]; done)), H', ⟨Nat.le_refl _⟩, by repeat (first | exact Drawn0.refl _ | apply Drawn0.step)⟩
 case round =>
  clear H'
  try clear p2
  obtain ⟨x9_1, rfl, HA, HK1, ⟨m1, rfl⟩⟩ := hrel
  cases gk with
  | zero => exact absurd HA.out (by simp [laws_wcHas.l0])
  | succ k1 =>
   have H := HA.out
   clear HA
   simp only [laws_wcHas.l0] at H
   by_cases c3 : x9_1 < (l0.length : Int)
   ·rw [if_pos c3] at H
    have c3b0 : decide (x9_1 < (l0.length : Int)) = true := decide_eq_true c3
    clear c3
    by_cases c4 : 0 ≤ x9_1
    ·rw [if_pos c4] at H
     have c4b0 : decide (0 ≤ x9_1) = true := decide_eq_true c4
     clear c4
     by_cases c5 : x9_1 < (l0.length : Int)
     ·rw [if_pos c5] at H
      have c5b0 : decide (x9_1 < (l0.length : Int)) = true := decide_eq_true c5
      clear c5
      by_cases c6 : (rd l0 x9_1) = a1
      ·rw [if_pos c6] at H
       have c6b0 : ((rd l0 x9_1) == a1) = true := beq_iff_eq.mpr c6
       have c6b1 : ((rd l0 x9_1) != a1) = false := bne_eq_false_iff_eq.mpr c6
       clear c6
       obtain rfl := Option.some.inj H
       have p358 : 0 ≤ (x9_1 : Int) := of_decide_eq_true (by first | (with_reducible assumption) | assumption)
       have q358 : x9_1 < (l0.length : Int) := of_decide_eq_true (by first | (with_reducible assumption) | assumption)
       obtain ⟨ad358, e358, hx358_0⟩ := Kd.at_int HR0.out x9_1 p358 q358
       cases e358
       replace p358 := eq_true p358
       replace q358 := eq_true q358
       go_wp2
       go_ret
       exact ⟨by first | rfl | (simp; done) | (simp [*]; done), by repeat (first | exact Drawn0.refl _ | apply Drawn0.step)⟩
      ·rw [if_neg c6] at H
       have c6b0 : ((rd l0 x9_1) == a1) = false := beq_eq_false_iff_ne.mpr c6
       have c6b1 : ((rd l0 x9_1) != a1) = true := bne_iff_ne.mpr c6
       have H' := Aside0.mk H
       clear H
       have p358 : 0 ≤ (x9_1 : Int) := of_decide_eq_true (by first | (with_reducible assumption) | assumption)
       have q358 : x9_1 < (l0.length : Int) := of_decide_eq_true (by first | (with_reducible assumption) | assumption)
       obtain ⟨ad358, e358, hx358_0⟩ := Kd.at_int HR0.out x9_1 p358 q358
       cases e358
       replace p358 := eq_true p358
       replace q358 := eq_true q358
       go_wp2
       go_roundg k1
       case measure => have := HK1.out; omega
       case rel => exact ⟨(wrap64 (x9_1 + 1)), (by first | rfl | (simp; done) | (simp [*]; done)), H', ⟨by have := HK1.out; omega⟩, by repeat (first | exact Drawn0.refl _ | apply Drawn0.step)⟩
     ·rw [if_neg c5] at H
      exact absurd H (by simp)
    ·rw [if_neg c4] at H
     exact absurd H (by simp)
   ·rw [if_neg c3] at H
    have c3b0 : decide (x9_1 < (l0.length : Int)) = false := decide_eq_false c3
    clear c3
    obtain rfl := Option.some.inj H
    go_wp2
    go_ret
    exact ⟨by first | rfl | (simp; done) | (simp [*]; done), by repeat (first | exact Drawn0.refl _ | apply Drawn0.step)⟩

end Go.Proofs.Ytcmpngglnpjgdaa.QFnSharedAtoms
