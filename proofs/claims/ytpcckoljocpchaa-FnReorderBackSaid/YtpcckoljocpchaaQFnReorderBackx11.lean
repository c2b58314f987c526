-- Written by a program of this session (mk.py). Lean checks it.
import Derived.Test.YtpcckoljocpchaaQFnReorderBackx0
import Derived.Test.YtpcckoljocpchaaQFnReorderBackx9
import Derived.Test.YtpcckoljocpchaaQFnReorderBackx10
namespace Go.Proofs.Ytpcckoljocpchaa.QFnReorderBack
open Go.RowKit Go.Proofs.YtpcckoljocpchaaW.PrintWords Go.Proofs.YtpcckoljocpchaaW.PrintLast Go.Proofs.YtpcckoljocpchaaW.PrintMore
attribute [local go_sem] max2_int min2_int max_two min_two max_three min_three max_four min_four   -- for this text's walks alone
set_option linter.unusedVariables false
set_option linter.unusedSimpArgs false

/-! ### spec_l8Fork: function 123 -/
def spec_l8Fork.j0 : Nat → Bool → Int → List (S56) → Int → Int → Int → Option (Bool)
 | 0, _, _, _, _, _, _ => none
 | k + 1, x27, x295000, x295001, x296000, x296001, x296002 => if x27 = true then (some false) else ((spec_l8Var.f x295000 x295001 x296001).bind fun t299 => (if t299 > x296000 then ((spec_l8Var.f x295000 x295001 x296002).bind fun t300 => (some (decide (t300 > x296000)))) else (some false)))
def spec_l8Fork.f (k : Nat) (a0_0 : Int) (l0_1 : List (S56)) (a1_0 : Int) (a1_1 : Int) (a1_2 : Int) (a2 : Int) : Option (Bool) := (spec_l1In.f a1_0 0 (wrap64 (a0_0 - 1))).bind fun t296 => (if t296 = true then ((spec_l1In.f a1_1 0 a2).bind fun t297 => (if t297 = true then ((spec_l1In.f a1_2 0 a2).bind fun t298 => (spec_l8Fork.j0 k (!t298) a0_0 l0_1 a1_0 a1_1 a1_2)) else (spec_l8Fork.j0 k true a0_0 l0_1 a1_0 a1_1 a1_2))) else (spec_l8Fork.j0 k true a0_0 l0_1 a1_0 a1_1 a1_2))
theorem spec_l8Fork.mono_l : ∀ k, (∀ y0 y1 y2 y3 y4 y5, LeO (spec_l8Fork.j0 k y0 y1 y2 y3 y4 y5) (spec_l8Fork.j0 (k + 1) y0 y1 y2 y3 y4 y5))
 | 0 => fun _ _ _ _ _ _ r h => by simp [spec_l8Fork.j0] at h
 | k + 1 => by
  have ih0 := spec_l8Fork.mono_l k
  ·intro y0 y1 y2 y3 y4 y5
   unfold spec_l8Fork.j0
   repeat' first
   | (with_reducible exact ih0 _ _ _ _ _ _)
   | (with_reducible exact LeO.refl _)
   | (with_reducible exact LeO.none _)
   | (with_reducible refine LeO.ite ?_ ?_)
   | (with_reducible refine LeO.bind ?_ (fun _ => ?_))
theorem spec_l8Fork.mono : ∀ a0 a1 a2 a3 a4 a5 k, LeO (spec_l8Fork.f k a0 a1 a2 a3 a4 a5) (spec_l8Fork.f (k + 1) a0 a1 a2 a3 a4 a5) := by
 intro a0 a1 a2 a3 a4 a5 k
 have ih0 := spec_l8Fork.mono_l k
 unfold spec_l8Fork.f
 repeat' first
   | (with_reducible exact ih0 _ _ _ _ _ _)
   | (with_reducible exact LeO.refl _)
   | (with_reducible exact LeO.none _)
   | (with_reducible refine LeO.ite ?_ ?_)
   | (with_reducible refine LeO.bind ?_ (fun _ => ?_))
def spec_l8Fork.T3 : Bool × List (List Nat × List Nat) := (true, [([], []), ([], []), ([1], [1]), ([0, 2], [0, 2]), ([], []), ([4], [4]), ([3, 5], [3, 5]), ([6, 3], [6]), ([7], [7]), ([7], [7]), ([9, 7], [7, 9]), ([8, 10, 7, 7], [7, 8, 10]), ([7], [7]), ([12, 7], [7, 12]), ([11, 13, 7], [7, 11, 13]), ([7, 14], [7, 14]), ([15, 11, 0, 1, 2, 3, 4, 5, 6, 7, 8, 9, 10, 11, 12, 13, 14, 15], [15])])
def spec_l8Fork.B3 : List Nat := [0, 0, 2, 7, 0, 16, 63, 127, 255, 255, 767, 2047, 255, 4351, 16383, 32767, 65535]
theorem spec_l8Fork.tab3 : rtab .any (opsOf Try.f123 3) = spec_l8Fork.T3 := by kernel_rfl
theorem spec_l8Fork.bits3 : waitsOk spec_l8Fork.T3.2 spec_l8Fork.B3 = true := by kernel_rfl
set_option maxHeartbeats 8000000 in
set_option maxRecDepth 100000 in
theorem spec_l8Fork.calls (k : Nat) (a0_0 : Int) (A0_1 : Option Addr) (c0_1 : Nat) (l0_1 : List (S56)) (a1_0 : Int) (a1_1 : Int) (a1_2 : Int) (a2 : Int) (r : Bool) (w : World) (hr0_1 : Kd.C k56 w A0_1 l0_1.length l0_1) (hc0_1 : l0_1.length ≤ c0_1) (h : spec_l8Fork.f k a0_0 l0_1 a1_0 a1_1 a1_2 a2 = some r) :
  Calls Try.prog 123 #[.agg #[.int .i64 a0_0, .slice A0_1 l0_1.length c0_1], .agg #[.int .i64 a1_0, .int .i64 a1_1, .int .i64 a1_2], .int .i64 a2] w fun e w' => e = .returned (.bool r) ∧ Below w.heap.size w w' := by
 have hu48 := Try.underlying48
 have hu56 := Try.underlying56
 have HR0_1 := Aside0.mk hr0_1
 have HC0_1 := Aside0.mk hc0_1
 clear hr0_1 hc0_1
 have HB := Aside0.mk (Below.refl w.heap.size w)
 have H : ((spec_l1In.f a1_0 0 (wrap64 (a0_0 - 1))).bind fun t296 => (if t296 = true then ((spec_l1In.f a1_1 0 a2).bind fun t297 => (if t297 = true then ((spec_l1In.f a1_2 0 a2).bind fun t298 => (spec_l8Fork.j0 k (!t298) a0_0 l0_1 a1_0 a1_1 a1_2)) else (spec_l8Fork.j0 k true a0_0 l0_1 a1_0 a1_1 a1_2))) else (spec_l8Fork.j0 k true a0_0 l0_1 a1_0 a1_1 a1_2))) = some r := h
 clear h
 have HC4 := Aside0.mk H
 clear H
 go_enter Try.func123, Try.ntmps123
 go_upto_region 1 with (first | ((with_reducible refine gate_dst (N := 3) rfl ?_); refine box_event ?hg (N := 3) ?hd (cs := #[.int .i64 a0_0, .slice A0_1 l0_1.length c0_1]) (t := 48) ?hr ?_; (case hd => rfl); (case hg => rfl); (case hr => first | (go_simp; done) | (go_simp; rfl)); intro gb294 hg w5 hbox hb; have n0_ := Aside0.mk (below_step hbB hb); have n1_ := Aside0.mk (hbox); have n2_ := Aside0.mk ((gwb hg (below_size hbB) : w.heap.size ≤ gb294)); have n3_ := n2_; clear HB; have HB := n0_; have BK294 := n1_; have GW294 := n2_; have GE294 := n3_; clear n0_ n1_ n2_ n3_; clear hb hbox hg) | ((with_reducible refine gate_dst (N := 4) rfl ?_); refine box_event ?hg (N := 4) ?hd (cs := #[.int .i64 a1_0, .int .i64 a1_1, .int .i64 a1_2]) (t := 56) ?hr ?_; (case hd => rfl); (case hg => rfl); (case hr => first | (go_simp; done) | (go_simp; rfl)); intro gb295 hg w6 hbox hb; have n0_ := Aside0.mk (blk_below (g := gb294) (o := .cells #[.int .i64 a0_0, .slice A0_1 l0_1.length c0_1] 48 (0, 0)) (bvK BK294.out) hb); have n1_ := Aside0.mk (below_step hbC hb); have n2_ := Aside0.mk (hbox); have n3_ := Aside0.mk ((gwb hg (below_size hbC) : w.heap.size ≤ gb295)); have n4_ := n3_; have n5_ := Aside0.mk ((by rw [hg]; exact Nat.ne_of_lt (blk_lt (g := gb294) (o := .cells #[.int .i64 a0_0, .slice A0_1 l0_1.length c0_1] 48 (0, 0)) (bvK BK294.out)) : gb294 ≠ gb295)); have n6_ := Aside0.mk ((by rw [hg]; exact Nat.ne_of_gt (blk_lt (g := gb294) (o := .cells #[.int .i64 a0_0, .slice A0_1 l0_1.length c0_1] 48 (0, 0)) (bvK BK294.out)) : gb295 ≠ gb294)); clear BK294; clear HB; have BK294 := n0_; have HB := n1_; have BK295 := n2_; have GW295 := n3_; have GE295 := n4_; have NB294_295 := n5_; have NB295_294 := n6_; clear n0_ n1_ n2_ n3_ n4_ n5_ n6_; clear hb hbox hg))
 (try simp only [Act.put, List.setIfInBounds_toArray, List.set_cons_zero, List.set_cons_succ])
 go_cut [27] (fun v27 wc => ∃ (kq : Nat) (x27_3 : Bool), v27 = .bool x27_3 ∧ Aside0 (spec_l8Fork.j0 kq x27_3 a0_0 l0_1 a1_0 a1_1 a1_2 = some r) ∧ Aside0 (kq ≤ k) ∧ Aside0 (wc.heap[gb294]? = some (.cells #[.int .i64 a0_0, (.slice A0_1 l0_1.length c0_1)] 48 (0, 0))) ∧ Aside0 (wc.heap[gb295]? = some (.cells #[.int .i64 a1_0, .int .i64 a1_1, .int .i64 a1_2] 56 (0, 0))) ∧ Aside0 (Below w.heap.size w wc))
 case first =>
  have H := HC4.out
  clear HC4
  replace H := Option.bind_eq_some_iff.mp H
  obtain ⟨t296, A70, H⟩ := H
  replace H : (if t296 = true then ((spec_l1In.f a1_1 0 a2).bind fun t297 => (if t297 = true then ((spec_l1In.f a1_2 0 a2).bind fun t298 => (spec_l8Fork.j0 k (!t298) a0_0 l0_1 a1_0 a1_1 a1_2)) else (spec_l8Fork.j0 k true a0_0 l0_1 a1_0 a1_1 a1_2))) else (spec_l8Fork.j0 k true a0_0 l0_1 a1_0 a1_1 a1_2)) = some r := H
  have A7 := Aside0.mk A70
  clear A70
  by_cases c8 : t296 = true
  ·subst c8
   have H1 : ((spec_l1In.f a1_1 0 a2).bind fun t297 => (if t297 = true then ((spec_l1In.f a1_2 0 a2).bind fun t298 => (spec_l8Fork.j0 k (!t298) a0_0 l0_1 a1_0 a1_1 a1_2)) else (spec_l8Fork.j0 k true a0_0 l0_1 a1_0 a1_1 a1_2))) = some r := by rw [if_pos rfl] at H; exact H
   clear H
   have H := H1
   clear H1
   replace H := Option.bind_eq_some_iff.mp H
   obtain ⟨t297, A90, H⟩ := H
   replace H : (if t297 = true then ((spec_l1In.f a1_2 0 a2).bind fun t298 => (spec_l8Fork.j0 k (!t298) a0_0 l0_1 a1_0 a1_1 a1_2)) else (spec_l8Fork.j0 k true a0_0 l0_1 a1_0 a1_1 a1_2)) = some r := H
   have A9 := Aside0.mk A90
   clear A90
   by_cases c10 : t297 = true
   ·subst c10
    have H1 : ((spec_l1In.f a1_2 0 a2).bind fun t298 => (spec_l8Fork.j0 k (!t298) a0_0 l0_1 a1_0 a1_1 a1_2)) = some r := by rw [if_pos rfl] at H; exact H
    clear H
    have H := H1
    clear H1
    replace H := Option.bind_eq_some_iff.mp H
    obtain ⟨t298, A110, H⟩ := H
    replace H : (spec_l8Fork.j0 k (!t298) a0_0 l0_1 a1_0 a1_1 a1_2) = some r := H
    have A11 := Aside0.mk A110
    clear A110
    have H' := Aside0.mk H
    clear H
    have hnb12 := NB295_294.out
    have hnc12 := NB294_295.out
    have hcz13_0 : w6.cell? ⟨gb295, 0, none⟩ = some (.int .i64 a1_0) := (blk_cell BK295.out 0).trans rfl
    have hcz13_1 : w6.cell? ⟨gb295, 1, none⟩ = some (.int .i64 a1_1) := (blk_cell BK295.out 1).trans rfl
    have hcz13_2 : w6.cell? ⟨gb295, 2, none⟩ = some (.int .i64 a1_2) := (blk_cell BK295.out 2).trans rfl
    have hfz13_0 := blk_frozen BK295.out 0
    have hfz13_1 := blk_frozen BK295.out 1
    have hfz13_2 := blk_frozen BK295.out 2
    have hcz14_0 : w6.cell? ⟨gb294, 0, none⟩ = some (.int .i64 a0_0) := (blk_cell BK294.out 0).trans rfl
    have hcz14_1 : w6.cell? ⟨gb294, 1, none⟩ = some (.slice A0_1 l0_1.length c0_1) := (blk_cell BK294.out 1).trans rfl
    have hfz14_0 := blk_frozen BK294.out 0
    have hfz14_1 := blk_frozen BK294.out 1
    go_wp2_with (first | ((with_reducible refine gate_callee (f := 74) rfl ?_); refine goesL_ (some 12) rfl rfl Try.func74 (by kernel_rfl) rfl #[.int .i64 a1_0, .int .i64 0, .int .i64 (wrap64 (a0_0 - 1))] rfl lmB ?_; (with_reducible refine (spec_l1In.calls a1_0 0 (wrap64 (a0_0 - 1)) true _ A7.out).mono ?_); rintro e w' ⟨rfl, ⟨nd, rfl⟩⟩; refine ⟨_, rfl, ?_⟩) | (go_at_call 74; (with_reducible refine (spec_l1In.calls a1_1 0 a2 true _ A9.out).mono ?_); rintro e w' ⟨rfl, ⟨nd, rfl⟩⟩) | (go_at_call 74; (with_reducible refine (spec_l1In.calls a1_2 0 a2 t298 _ A11.out).mono ?_); rintro e w' ⟨rfl, ⟨nd, rfl⟩⟩))
    go_meet
    case rel => exact ⟨_, (!t298), rsd, H', ⟨by first | omega | exact Nat.le_refl _⟩, ⟨bvK BK294.out⟩, ⟨bvK BK295.out⟩, ⟨hbC⟩⟩
   ·replace c10 := Bool.eq_false_iff.mpr c10
    subst c10
    have H1 : (spec_l8Fork.j0 k true a0_0 l0_1 a1_0 a1_1 a1_2) = some r := by rw [if_neg (show ¬ (false = true) by decide)] at H; exact H
    clear H
    have H := H1
    clear H1
    have H' := Aside0.mk H
    clear H
    have hnb15 := NB295_294.out
    have hnc15 := NB294_295.out
    have hcz16_0 : w6.cell? ⟨gb295, 0, none⟩ = some (.int .i64 a1_0) := (blk_cell BK295.out 0).trans rfl
    have hcz16_1 : w6.cell? ⟨gb295, 1, none⟩ = some (.int .i64 a1_1) := (blk_cell BK295.out 1).trans rfl
    have hcz16_2 : w6.cell? ⟨gb295, 2, none⟩ = some (.int .i64 a1_2) := (blk_cell BK295.out 2).trans rfl
    have hfz16_0 := blk_frozen BK295.out 0
    have hfz16_1 := blk_frozen BK295.out 1
    have hfz16_2 := blk_frozen BK295.out 2
    have hcz17_0 : w6.cell? ⟨gb294, 0, none⟩ = some (.int .i64 a0_0) := (blk_cell BK294.out 0).trans rfl
    have hcz17_1 : w6.cell? ⟨gb294, 1, none⟩ = some (.slice A0_1 l0_1.length c0_1) := (blk_cell BK294.out 1).trans rfl
    have hfz17_0 := blk_frozen BK294.out 0
    have hfz17_1 := blk_frozen BK294.out 1
    go_wp2_with (first | ((with_reducible refine gate_callee (f := 74) rfl ?_); refine goesL_ (some 12) rfl rfl Try.func74 (by kernel_rfl) rfl #[.int .i64 a1_0, .int .i64 0, .int .i64 (wrap64 (a0_0 - 1))] rfl lmB ?_; (with_reducible refine (spec_l1In.calls a1_0 0 (wrap64 (a0_0 - 1)) true _ A7.out).mono ?_); rintro e w' ⟨rfl, ⟨nd, rfl⟩⟩; refine ⟨_, rfl, ?_⟩) | (go_at_call 74; (with_reducible refine (spec_l1In.calls a1_1 0 a2 false _ A9.out).mono ?_); rintro e w' ⟨rfl, ⟨nd, rfl⟩⟩))
    go_meet
    case rel => exact ⟨_, (true), rsd, H', ⟨by first | omega | exact Nat.le_refl _⟩, ⟨bvK BK294.out⟩, ⟨bvK BK295.out⟩, ⟨hbC⟩⟩
  ·replace c8 := Bool.eq_false_iff.mpr c8
   subst c8
   have H1 : (spec_l8Fork.j0 k true a0_0 l0_1 a1_0 a1_1 a1_2) = some r := by rw [if_neg (show ¬ (false = true) by decide)] at H; exact H
   clear H
   have H := H1
   clear H1
   have H' := Aside0.mk H
   clear H
   have hnb18 := NB295_294.out
   have hnc18 := NB294_295.out
   have hcz19_0 : w6.cell? ⟨gb295, 0, none⟩ = some (.int .i64 a1_0) := (blk_cell BK295.out 0).trans rfl
   have hcz19_1 : w6.cell? ⟨gb295, 1, none⟩ = some (.int .i64 a1_1) := (blk_cell BK295.out 1).trans rfl
   have hcz19_2 : w6.cell? ⟨gb295, 2, none⟩ = some (.int .i64 a1_2) := (blk_cell BK295.out 2).trans rfl
   have hfz19_0 := blk_frozen BK295.out 0
   have hfz19_1 := blk_frozen BK295.out 1
   have hfz19_2 := blk_frozen BK295.out 2
   have hcz20_0 : w6.cell? ⟨gb294, 0, none⟩ = some (.int .i64 a0_0) := (blk_cell BK294.out 0).trans rfl
   have hcz20_1 : w6.cell? ⟨gb294, 1, none⟩ = some (.slice A0_1 l0_1.length c0_1) := (blk_cell BK294.out 1).trans rfl
   have hfz20_0 := blk_frozen BK294.out 0
   have hfz20_1 := blk_frozen BK294.out 1
   go_wp2_with (first | ((with_reducible refine gate_callee (f := 74) rfl ?_); refine goesL_ (some 12) rfl rfl Try.func74 (by kernel_rfl) rfl #[.int .i64 a1_0, .int .i64 0, .int .i64 (wrap64 (a0_0 - 1))] rfl lmB ?_; (with_reducible refine (spec_l1In.calls a1_0 0 (wrap64 (a0_0 - 1)) false _ A7.out).mono ?_); rintro e w' ⟨rfl, ⟨nd, rfl⟩⟩; refine ⟨_, rfl, ?_⟩))
   go_meet
   case rel => exact ⟨_, (true), rsd, H', ⟨by first | omega | exact Nat.le_refl _⟩, ⟨bvK BK294.out⟩, ⟨bvK BK295.out⟩, ⟨hbC⟩⟩
 case rest =>
  clear HC4
  try clear c1
  try clear p2
  try clear p6
  try clear c7
  try clear c8
  try clear c10
  try clear c12
  try clear c15
  try clear c18
  try clear hcz13_0
  try clear hcz13_1
  try clear hcz13_2
  try clear hcz14_0
  try clear hcz14_1
  try clear hcz16_0
  try clear hcz16_1
  try clear hcz16_2
  try clear hcz17_0
  try clear hcz17_1
  try clear hcz19_0
  try clear hcz19_1
  try clear hcz19_2
  try clear hcz20_0
  try clear hcz20_1
  try clear hfz13_0
  try clear hfz13_1
  try clear hfz13_2
  try clear hfz14_0
  try clear hfz14_1
  try clear hfz16_0
  try clear hfz16_1
  try clear hfz16_2
  try clear hfz17_0
  try clear hfz17_1
  try clear hfz19_0
  try clear hfz19_1
  try clear hfz19_2
  try clear hfz20_0
  try clear hfz20_1
  obtain ⟨kq, x27_3, rfl, HA, HJ3, BK294, BK295, HB⟩ := hcut
  cases kq with
  | zero => exact absurd HA.out (by simp [spec_l8Fork.j0])
  | succ kj3 =>
   have H := HA.out
   clear HA
   simp only [spec_l8Fork.j0] at H
   by_cases c21 : x27_3 = true
   ·subst c21
    have H1 : (some false) = some r := by rw [if_pos rfl] at H; exact H
    clear H
    have H := H1
    clear H1
    obtain rfl := Option.some.inj H
    go_wp2
    go_ret
    exact ⟨ers, hbC⟩
   ·replace c21 := Bool.eq_false_iff.mpr c21
    subst c21
    have H1 : ((spec_l8Var.f a0_0 l0_1 a1_1).bind fun t299 => (if t299 > a1_0 then ((spec_l8Var.f a0_0 l0_1 a1_2).bind fun t300 => (some (decide (t300 > a1_0)))) else (some false))) = some r := by rw [if_neg (show ¬ (false = true) by decide)] at H; exact H
    clear H
    have H := H1
    clear H1
    replace H := Option.bind_eq_some_iff.mp H
    obtain ⟨t299, A220, H⟩ := H
    replace H : (if t299 > a1_0 then ((spec_l8Var.f a0_0 l0_1 a1_2).bind fun t300 => (some (decide (t300 > a1_0)))) else (some false)) = some r := H
    have A22 := Aside0.mk A220
    clear A220
    by_cases c23 : t299 > a1_0
    ·rw [if_pos c23] at H
     have c23b0 : decide (a1_0 < t299) = true := decide_eq_true c23
     clear c23
     replace H := Option.bind_eq_some_iff.mp H
     obtain ⟨t300, A240, H⟩ := H
     replace H : (some (decide (t300 > a1_0))) = some r := H
     have A24 := Aside0.mk A240
     clear A240
     obtain rfl := Option.some.inj H
     try go_wp2
     have n0_ := Aside0.mk (blk_drew BK294.out)
     have n1_ := Aside0.mk (blk_drew BK295.out)
     have n2_ := Aside0.mk (below_drew1 HB.out)
     clear BK294
     clear BK295
     clear HB
     have BK294 := n0_
     have BK295 := n1_
     have HB := n2_
     clear n0_ n1_ n2_
     refine start_ (n := 17) (S := fun w' => w'.cell? ⟨gb294, 0, none⟩ = some (.int .i64 a0_0) ∧ w'.cell? ⟨gb294, 1, none⟩ = some (.slice A0_1 l0_1.length c0_1) ∧ w'.cell? ⟨gb295, 0, none⟩ = some (.int .i64 a1_0) ∧ w'.cell? ⟨gb295, 1, none⟩ = some (.int .i64 a1_1) ∧ w'.cell? ⟨gb295, 2, none⟩ = some (.int .i64 a1_2)) (ds := []) (Pt.bm 17 0) (by kernel_rfl) rfl rfl ⟨(blk_cell BK294.out 0).trans rfl, (blk_cell BK294.out 1).trans rfl, (blk_cell BK295.out 0).trans rfl, (blk_cell BK295.out 1).trans rfl, (blk_cell BK295.out 2).trans rfl⟩ (fun hHeld => ?_); refine with_tabW spec_l8Fork.tab3 spec_l8Fork.bits3 (fun HT_ HW_ => ?_)
     generalize wc.drew = w25 at BK294 BK295 HB hHeld ⊢
     refine Pt.pu 1 (some 29) (Pt.bm 17 2) (any_of HT_.out (by kernel_rfl)) ?_
     refine Pt.pu 4 (some 32) (Pt.bm 17 18) (any_of HT_.out (by kernel_rfl)) ?_
     refine Pt.tk 0 (some 28) (Pt.bm 17 19) rfl rfl (take_ofW HT_.out HW_.out (by kernel_rfl)) hHeld (Or.inl ⟨by rfl, by rintro w' ⟨s0, s1, s2, s3, s4⟩; go_simp; with_reducible rfl⟩) ?_
     refine Pt.tk 2 (some 30) (Pt.bm 17 23) rfl rfl (take_ofW HT_.out HW_.out (by kernel_rfl)) hHeld (Or.inl ⟨by rfl, by rintro w' ⟨s0, s1, s2, s3, s4⟩; go_simp; with_reducible rfl⟩) ?_
     refine Pt.tk 5 (some 33) (Pt.bm 17 55) rfl rfl (take_ofW HT_.out HW_.out (by kernel_rfl)) hHeld (Or.inl ⟨by rfl, by rintro w' ⟨s0, s1, s2, s3, s4⟩; go_simp; with_reducible rfl⟩) ?_
     refine one_ (i := 3) (N := some 31) (Pt.bm 17 63) rfl rfl (one_of HT_.out (by kernel_rfl)) (by decide) (fun K hK => ?_)
     refine goes_ Try.func140 (by kernel_rfl) rfl #[.agg #[.int .i64 a0_0, .slice A0_1 l0_1.length c0_1], .int .i64 a1_1] (by rfl) rfl rfl lmB ?_
     with_reducible refine (spec_l8Var.calls a0_0 _ _ l0_1 a1_1 t299 _ ?side1 ?side2 A22.out).mono ?_
     (case side1 => exact kcR (Kd.C_below HR0_1.out HB.out))
     (case side2 => exact HC0_1.out)
     rintro e w26 ⟨rfl, hb⟩
     refine ⟨_, rfl, ?_⟩
     have n0_ := Aside0.mk (blk_below (g := gb294) (o := .cells #[.int .i64 a0_0, .slice A0_1 l0_1.length c0_1] 48 (0, 0)) (bvK BK294.out) hb)
     have n1_ := Aside0.mk (blk_below (g := gb295) (o := .cells #[.int .i64 a1_0, .int .i64 a1_1, .int .i64 a1_2] 56 (0, 0)) (bvK BK295.out) hb)
     have n2_ := Aside0.mk (below_step hbC hb)
     clear BK294
     clear BK295
     clear HB
     have BK294 := n0_
     have BK295 := n1_
     have HB := n2_
     clear n0_ n1_ n2_
     (try clear hb)
     (try clear hb2)
     (try clear hk)
     (try clear hi)
     refine hK.out _ _ ⟨(blk_cell BK294.out 0).trans rfl, (blk_cell BK294.out 1).trans rfl, (blk_cell BK295.out 0).trans rfl, (blk_cell BK295.out 1).trans rfl, (blk_cell BK295.out 2).trans rfl⟩ (fun hHeld => ?_)
     clear hK K
     refine norm_ (a' := ?_) ?_ ?_
     rotate_left
     ·show Act.put _ (some 31) _ = _
      simp only [Act.put, List.setIfInBounds_toArray, List.set_cons_zero, List.set_cons_succ, i64_w, i32_w]
      rfl
     refine Pt.pu 6 (some 34) (Pt.bm 17 127) (any_of HT_.out (by kernel_rfl)) ?_
     refine Pt.pu 7 (some 35) (Pt.bm 17 255) (any_of HT_.out (by kernel_rfl)) ?_
     refine Pt.pu 9 (some 37) (Pt.bm 17 767) (any_of HT_.out (by kernel_rfl)) ?_
     refine Pt.pu 12 (some 40) (Pt.bm 17 4863) (any_of HT_.out (by kernel_rfl)) ?_
     refine Pt.tk 8 (some 36) (Pt.bm 17 5119) rfl rfl (take_ofW HT_.out HW_.out (by kernel_rfl)) hHeld (Or.inl ⟨by rfl, by rintro w' ⟨s0, s1, s2, s3, s4⟩; go_simp; with_reducible rfl⟩) ?_
     refine Pt.tk 10 (some 38) (Pt.bm 17 6143) rfl rfl (take_ofW HT_.out HW_.out (by kernel_rfl)) hHeld (Or.inl ⟨by rfl, by rintro w' ⟨s0, s1, s2, s3, s4⟩; go_simp; with_reducible rfl⟩) ?_
     refine Pt.tk 13 (some 41) (Pt.bm 17 14335) rfl rfl (take_ofW HT_.out HW_.out (by kernel_rfl)) hHeld (Or.inl ⟨by rfl, by rintro w' ⟨s0, s1, s2, s3, s4⟩; go_simp; with_reducible rfl⟩) ?_
     refine one_ (i := 11) (N := some 39) (Pt.bm 17 16383) rfl rfl (one_of HT_.out (by kernel_rfl)) (by decide) (fun K hK => ?_)
     refine goes_ Try.func140 (by kernel_rfl) rfl #[.agg #[.int .i64 a0_0, .slice A0_1 l0_1.length c0_1], .int .i64 a1_2] (by rfl) rfl rfl lmB ?_
     with_reducible refine (spec_l8Var.calls a0_0 _ _ l0_1 a1_2 t300 _ ?side1 ?side2 A24.out).mono ?_
     (case side1 => exact kcR (Kd.C_below HR0_1.out HB.out))
     (case side2 => exact HC0_1.out)
     rintro e w27 ⟨rfl, hb⟩
     refine ⟨_, rfl, ?_⟩
     have n0_ := Aside0.mk (blk_below (g := gb294) (o := .cells #[.int .i64 a0_0, .slice A0_1 l0_1.length c0_1] 48 (0, 0)) (bvK BK294.out) hb)
     have n1_ := Aside0.mk (blk_below (g := gb295) (o := .cells #[.int .i64 a1_0, .int .i64 a1_1, .int .i64 a1_2] 56 (0, 0)) (bvK BK295.out) hb)
     have n2_ := Aside0.mk (below_step hbC hb)
     clear BK294
     clear BK295
     clear HB
     have BK294 := n0_
     have BK295 := n1_
     have HB := n2_
     clear n0_ n1_ n2_
     (try clear hb)
     (try clear hb2)
     (try clear hk)
     (try clear hi)
     refine hK.out _ _ ⟨(blk_cell BK294.out 0).trans rfl, (blk_cell BK294.out 1).trans rfl, (blk_cell BK295.out 0).trans rfl, (blk_cell BK295.out 1).trans rfl, (blk_cell BK295.out 2).trans rfl⟩ (fun hHeld => ?_)
     clear hK K
     refine norm_ (a' := ?_) ?_ ?_
     rotate_left
     ·show Act.put _ (some 39) _ = _
      simp only [Act.put, List.setIfInBounds_toArray, List.set_cons_zero, List.set_cons_succ, i64_w, i32_w]
      rfl
     refine Pt.pu 14 (some 42) (Pt.bm 17 32767) (any_of HT_.out (by kernel_rfl)) ?_
     refine Pt.pu 15 (some 43) (Pt.bm 17 65535) (any_of HT_.out (by kernel_rfl)) ?_
     refine Pt.pu 16 (some 6) (Pt.bm 17 131071) (any_of HT_.out (by kernel_rfl)) ?_
     refine done_ (done_of HT_.out (by kernel_rfl)) ?_
     try go_wp2
     go_ret
     exact ⟨ers, hbC⟩
    ·rw [if_neg c23] at H
     have c23b0 : decide (a1_0 < t299) = false := decide_eq_false c23
     clear c23
     obtain rfl := Option.some.inj H
     try go_wp2
     have n0_ := Aside0.mk (blk_drew BK294.out)
     have n1_ := Aside0.mk (blk_drew BK295.out)
     have n2_ := Aside0.mk (below_drew1 HB.out)
     clear BK294
     clear BK295
     clear HB
     have BK294 := n0_
     have BK295 := n1_
     have HB := n2_
     clear n0_ n1_ n2_
     refine start_ (n := 17) (S := fun w' => w'.cell? ⟨gb294, 0, none⟩ = some (.int .i64 a0_0) ∧ w'.cell? ⟨gb294, 1, none⟩ = some (.slice A0_1 l0_1.length c0_1) ∧ w'.cell? ⟨gb295, 0, none⟩ = some (.int .i64 a1_0) ∧ w'.cell? ⟨gb295, 1, none⟩ = some (.int .i64 a1_1) ∧ w'.cell? ⟨gb295, 2, none⟩ = some (.int .i64 a1_2)) (ds := []) (Pt.bm 17 0) (by kernel_rfl) rfl rfl ⟨(blk_cell BK294.out 0).trans rfl, (blk_cell BK294.out 1).trans rfl, (blk_cell BK295.out 0).trans rfl, (blk_cell BK295.out 1).trans rfl, (blk_cell BK295.out 2).trans rfl⟩ (fun hHeld => ?_); refine with_tabW spec_l8Fork.tab3 spec_l8Fork.bits3 (fun HT_ HW_ => ?_)
     generalize wc.drew = w28 at BK294 BK295 HB hHeld ⊢
     refine Pt.pu 1 (some 29) (Pt.bm 17 2) (any_of HT_.out (by kernel_rfl)) ?_
     refine Pt.pu 4 (some 32) (Pt.bm 17 18) (any_of HT_.out (by kernel_rfl)) ?_
     refine Pt.tk 0 (some 28) (Pt.bm 17 19) rfl rfl (take_ofW HT_.out HW_.out (by kernel_rfl)) hHeld (Or.inl ⟨by rfl, by rintro w' ⟨s0, s1, s2, s3, s4⟩; go_simp; with_reducible rfl⟩) ?_
     refine Pt.tk 2 (some 30) (Pt.bm 17 23) rfl rfl (take_ofW HT_.out HW_.out (by kernel_rfl)) hHeld (Or.inl ⟨by rfl, by rintro w' ⟨s0, s1, s2, s3, s4⟩; go_simp; with_reducible rfl⟩) ?_
     refine Pt.tk 5 (some 33) (Pt.bm 17 55) rfl rfl (take_ofW HT_.out HW_.out (by kernel_rfl)) hHeld (Or.inl ⟨by rfl, by rintro w' ⟨s0, s1, s2, s3, s4⟩; go_simp; with_reducible rfl⟩) ?_
     refine one_ (i := 3) (N := some 31) (Pt.bm 17 63) rfl rfl (one_of HT_.out (by kernel_rfl)) (by decide) (fun K hK => ?_)
     refine goes_ Try.func140 (by kernel_rfl) rfl #[.agg #[.int .i64 a0_0, .slice A0_1 l0_1.length c0_1], .int .i64 a1_1] (by rfl) rfl rfl lmB ?_
     with_reducible refine (spec_l8Var.calls a0_0 _ _ l0_1 a1_1 t299 _ ?side1 ?side2 A22.out).mono ?_
     (case side1 => exact kcR (Kd.C_below HR0_1.out HB.out))
     (case side2 => exact HC0_1.out)
     rintro e w29 ⟨rfl, hb⟩
     refine ⟨_, rfl, ?_⟩
     have n0_ := Aside0.mk (blk_below (g := gb294) (o := .cells #[.int .i64 a0_0, .slice A0_1 l0_1.length c0_1] 48 (0, 0)) (bvK BK294.out) hb)
     have n1_ := Aside0.mk (blk_below (g := gb295) (o := .cells #[.int .i64 a1_0, .int .i64 a1_1, .int .i64 a1_2] 56 (0, 0)) (bvK BK295.out) hb)
     have n2_ := Aside0.mk (below_step hbC hb)
     clear BK294
     clear BK295
     clear HB
     have BK294 := n0_
     have BK295 := n1_
     have HB := n2_
     clear n0_ n1_ n2_
     (try clear hb)
     (try clear hb2)
     (try clear hk)
     (try clear hi)
     refine hK.out _ _ ⟨(blk_cell BK294.out 0).trans rfl, (blk_cell BK294.out 1).trans rfl, (blk_cell BK295.out 0).trans rfl, (blk_cell BK295.out 1).trans rfl, (blk_cell BK295.out 2).trans rfl⟩ (fun hHeld => ?_)
     clear hK K
     refine norm_ (a' := ?_) ?_ ?_
     rotate_left
     ·show Act.put _ (some 31) _ = _
      simp only [Act.put, List.setIfInBounds_toArray, List.set_cons_zero, List.set_cons_succ, i64_w, i32_w]
      rfl
     refine Pt.pu 6 (some 34) (Pt.bm 17 127) (any_of HT_.out (by kernel_rfl)) ?_
     refine Pt.pu 7 (some 35) (Pt.bm 17 255) (any_of HT_.out (by kernel_rfl)) ?_
     refine Pt.pn 8 (some 36) (Pt.bm 17 511) (any_of HT_.out (by kernel_rfl)) ?_
     refine Pt.pn 9 (some 37) (Pt.bm 17 1023) (any_of HT_.out (by kernel_rfl)) ?_
     refine Pt.pn 10 (some 38) (Pt.bm 17 2047) (any_of HT_.out (by kernel_rfl)) ?_
     refine Pt.pn 11 (some 39) (Pt.bm 17 4095) (any_of HT_.out (by kernel_rfl)) ?_
     refine Pt.pn 12 (some 40) (Pt.bm 17 8191) (any_of HT_.out (by kernel_rfl)) ?_
     refine Pt.pn 13 (some 41) (Pt.bm 17 16383) (any_of HT_.out (by kernel_rfl)) ?_
     refine Pt.pn 14 (some 42) (Pt.bm 17 32767) (any_of HT_.out (by kernel_rfl)) ?_
     refine Pt.pu 15 (some 43) (Pt.bm 17 65535) (any_of HT_.out (by kernel_rfl)) ?_
     refine Pt.pu 16 (some 6) (Pt.bm 17 131071) (any_of HT_.out (by kernel_rfl)) ?_
     refine done_ (done_of HT_.out (by kernel_rfl)) ?_
     try go_wp2
     go_ret
     exact ⟨ers, hbC⟩

end Go.Proofs.Ytpcckoljocpchaa.QFnReorderBack
