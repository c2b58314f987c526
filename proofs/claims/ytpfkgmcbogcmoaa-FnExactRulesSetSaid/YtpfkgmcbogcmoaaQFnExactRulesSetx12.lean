-- Written by a program of this session (mk.py). Lean checks it.
import Derived.Test.YtpfkgmcbogcmoaaQFnExactRulesSetx0
import Derived.Test.YtpfkgmcbogcmoaaQFnExactRulesSetx10
import Derived.Test.YtpfkgmcbogcmoaaQFnExactRulesSetx11
namespace Go.Proofs.Ytpfkgmcbogcmoaa.QFnExactRulesSet
open Go.RowKit Go.Proofs.YtpfkgmcbogcmoaaW.PrintWords Go.Proofs.YtpfkgmcbogcmoaaW.PrintLast Go.Proofs.YtpfkgmcbogcmoaaW.PrintMore
attribute [local go_sem] max2_int min2_int max_two min_two max_three min_three max_four min_four   -- for this text's walks alone
set_option linter.unusedVariables false
set_option linter.unusedSimpArgs false

/-! ### impl_ruleOk: function 91 -/
mutual
def impl_ruleOk.j0 : Nat → Int → Bool → List (S73) → List Int → List (List (S73)) → Option (Bool)
 | 0, _, _, _, _, _ => none
 | k + 1, x1, x20, x297000, x297001, x297002 => if x20 = true then (some false) else (impl_ruleOk.l0 k x1 x297001 (x297001.length : Int) 0 x297000 x297001 x297002)
def impl_ruleOk.l0 : Nat → Int → List Int → Int → Int → List (S73) → List Int → List (List (S73)) → Option (Bool)
 | 0, _, _, _, _, _, _, _ => none
 | k + 1, x1, x22, x23, x24, x297000, x297001, x297002 => if x24 < x23 then (if 0 ≤ x24 then (if x24 < (x22.length : Int) then ((impl_in.f (rd x22 x24) 0 (wrap64 (x1 - 1))).bind fun t299 => (if t299 = true then (if x24 > 0 then (if 0 ≤ (wrap64 (x24 - 1)) then (if (wrap64 (x24 - 1)) < (x297001.length : Int) then (if (rd x297001 (wrap64 (x24 - 1))) ≥ (rd x22 x24) then (some false) else (if x24 < (x297002.length : Int) then ((impl_kindOf.f k (rd_L9 x297002 x24) x1).bind fun t302 => (if t302 = 1 then (impl_ruleOk.l0 k x1 x22 x23 (wrap64 (x24 + 1)) x297000 x297001 x297002) else (some false))) else (none))) else (none)) else (none)) else (if x24 < (x297002.length : Int) then ((impl_kindOf.f k (rd_L9 x297002 x24) x1).bind fun t304 => (if t304 = 1 then (impl_ruleOk.l0 k x1 x22 x23 (wrap64 (x24 + 1)) x297000 x297001 x297002) else (some false))) else (none))) else (some false))) else (none)) else (none)) else (some true)
end
def impl_ruleOk.f (k : Nat) (l0_0 : List (S73)) (l0_1 : List Int) (l0_2 : List (List (S73))) (a1 : Int) : Option (Bool) := (impl_kindOf.f k l0_0 a1).bind fun t297 => (if t297 = 2 then (impl_ruleOk.j0 k a1 ((l0_1.length : Int) != (l0_2.length : Int)) l0_0 l0_1 l0_2) else (impl_ruleOk.j0 k a1 true l0_0 l0_1 l0_2))
theorem impl_ruleOk.mono_l : ∀ k, (∀ y0 y1 y2 y3 y4, LeO (impl_ruleOk.j0 k y0 y1 y2 y3 y4) (impl_ruleOk.j0 (k + 1) y0 y1 y2 y3 y4)) ∧ (∀ y0 y1 y2 y3 y4 y5 y6, LeO (impl_ruleOk.l0 k y0 y1 y2 y3 y4 y5 y6) (impl_ruleOk.l0 (k + 1) y0 y1 y2 y3 y4 y5 y6))
 | 0 => ⟨fun _ _ _ _ _ r h => by simp [impl_ruleOk.j0] at h, fun _ _ _ _ _ _ _ r h => by simp [impl_ruleOk.l0] at h⟩
 | k + 1 => by
  obtain ⟨ih0, ih1⟩ := impl_ruleOk.mono_l k
  refine ⟨?_, ?_⟩
  ·intro y0 y1 y2 y3 y4
   unfold impl_ruleOk.j0
   repeat' first
   | (with_reducible exact ih0 _ _ _ _ _)
   | (with_reducible exact ih1 _ _ _ _ _ _ _)
   | (with_reducible exact impl_kindOf.mono _ _ _)
   | (with_reducible exact LeO.refl _)
   | (with_reducible exact LeO.none _)
   | (with_reducible refine LeO.ite ?_ ?_)
   | (with_reducible refine LeO.bind ?_ (fun _ => ?_))
   | exact ih0 _ _ _ _ _
   | exact ih1 _ _ _ _ _ _ _
   | exact impl_kindOf.mono _ _ _
   | exact LeO.none _
   | refine LeO.ite ?_ ?_
   | refine LeO.bind ?_ (fun _ => ?_)
  ·intro y0 y1 y2 y3 y4 y5 y6
   unfold impl_ruleOk.l0
   repeat' first
   | (with_reducible exact ih0 _ _ _ _ _)
   | (with_reducible exact ih1 _ _ _ _ _ _ _)
   | (with_reducible exact impl_kindOf.mono _ _ _)
   | (with_reducible exact LeO.refl _)
   | (with_reducible exact LeO.none _)
   | (with_reducible refine LeO.ite ?_ ?_)
   | (with_reducible refine LeO.bind ?_ (fun _ => ?_))
   | exact ih0 _ _ _ _ _
   | exact ih1 _ _ _ _ _ _ _
   | exact impl_kindOf.mono _ _ _
   | exact LeO.none _
   | refine LeO.ite ?_ ?_
   | refine LeO.bind ?_ (fun _ => ?_)
theorem impl_ruleOk.mono : ∀ a0 a1 a2 a3 k, LeO (impl_ruleOk.f k a0 a1 a2 a3) (impl_ruleOk.f (k + 1) a0 a1 a2 a3) := by
 intro a0 a1 a2 a3 k
 obtain ⟨ih0, ih1⟩ := impl_ruleOk.mono_l k
 unfold impl_ruleOk.f
 repeat' first
   | (with_reducible exact ih0 _ _ _ _ _)
   | (with_reducible exact ih1 _ _ _ _ _ _ _)
   | (with_reducible exact impl_kindOf.mono _ _ _)
   | (with_reducible exact LeO.refl _)
   | (with_reducible exact LeO.none _)
   | (with_reducible refine LeO.ite ?_ ?_)
   | (with_reducible refine LeO.bind ?_ (fun _ => ?_))
   | exact ih0 _ _ _ _ _
   | exact ih1 _ _ _ _ _ _ _
   | exact impl_kindOf.mono _ _ _
   | exact LeO.none _
   | refine LeO.ite ?_ ?_
   | refine LeO.bind ?_ (fun _ => ?_)
set_option maxHeartbeats 8000000 in
set_option maxRecDepth 100000 in
theorem impl_ruleOk.calls (k : Nat) (A0_0 : Option Addr) (c0_0 : Nat) (l0_0 : List (S73)) (A0_1 : Option Addr) (c0_1 : Nat) (l0_1 : List Int) (A0_2 : Option Addr) (c0_2 : Nat) (l0_2 : List (List (S73))) (a1 : Int) (r : Bool) (w : World) (hr0_0 : Kd.C k73 w A0_0 l0_0.length l0_0) (hc0_0 : l0_0.length ≤ c0_0) (hr0_1 : Kd.C (Kd.int .i64) w A0_1 l0_1.length l0_1) (hc0_1 : l0_1.length ≤ c0_1) (hr0_2 : Kd.C (Kd.slice 73 k73) w A0_2 l0_2.length l0_2) (hc0_2 : l0_2.length ≤ c0_2) (h : impl_ruleOk.f k l0_0 l0_1 l0_2 a1 = some r) :
  Calls Try.prog 91 #[.agg #[.slice A0_0 l0_0.length c0_0, .slice A0_1 l0_1.length c0_1, .slice A0_2 l0_2.length c0_2], .int .i64 a1] w fun e w' => e = .returned (.bool r) ∧ Below w.heap.size w w' := by
 have hu109 := Try.underlying109
 have HR0_0 := Aside0.mk hr0_0
 have HC0_0 := Aside0.mk hc0_0
 clear hr0_0 hc0_0
 have HR0_1 := Aside0.mk hr0_1
 have HC0_1 := Aside0.mk hc0_1
 clear hr0_1 hc0_1
 have HR0_2 := Aside0.mk hr0_2
 have HC0_2 := Aside0.mk hc0_2
 clear hr0_2 hc0_2
 have HB := Aside0.mk (Below.refl w.heap.size w)
 have H : ((impl_kindOf.f k l0_0 a1).bind fun t297 => (if t297 = 2 then (impl_ruleOk.j0 k a1 ((l0_1.length : Int) != (l0_2.length : Int)) l0_0 l0_1 l0_2) else (impl_ruleOk.j0 k a1 true l0_0 l0_1 l0_2))) = some r := h
 clear h
 have HC3 := Aside0.mk H
 clear H
 go_enter Try.func91, Try.ntmps91
 go_upto_region 1 with (first | ((with_reducible refine gate_dst (N := 2) rfl ?_); (try (refine gate_guard (by rfl) ?_; dsimp only)); refine box_event ?hg (N := 2) ?hd (cs := #[.slice A0_0 l0_0.length c0_0, .slice A0_1 l0_1.length c0_1, .slice A0_2 l0_2.length c0_2]) (t := 109) ?hr ?_; (case hd => rfl); (case hg => rfl); (case hr => first | (go_simp; done) | (go_simp; rfl)); intro gb296 hg w4 hbox hb; have n0_ := Aside0.mk (below_step (by repeat (first | (with_reducible first | exact HB.out | apply bwA | apply bwN | apply bwD) | exact HB.out)) hb); have n1_ := Aside0.mk (hbox); have n2_ := Aside0.mk ((by rw [hg]; exact (below_size (by repeat (first | (with_reducible first | exact HB.out | apply bwA | apply bwN | apply bwD) | exact HB.out))) : w.heap.size ≤ gb296)); have n3_ := Aside0.mk ((by rw [hg]; exact (below_size (by repeat (first | (with_reducible first | exact HB.out | apply bwA | apply bwN | apply bwD) | exact HB.out))) : w.heap.size ≤ gb296)); clear HB; have HB := n0_; have BK296 := n1_; have GW296 := n2_; have GE296 := n3_; clear n0_ n1_ n2_ n3_; clear hb hbox hg))
 (try simp only [Act.put, List.setIfInBounds_toArray, List.set_cons_zero, List.set_cons_succ])
 go_cut [20] (fun v20 wc => ∃ (kq : Nat) (x20_2 : Bool), v20 = .bool x20_2 ∧ Aside0 (impl_ruleOk.j0 kq a1 x20_2 l0_0 l0_1 l0_2 = some r) ∧ Aside0 (kq ≤ k) ∧ Aside0 (wc.heap[gb296]? = some (.cells #[(.slice A0_0 l0_0.length c0_0), (.slice A0_1 l0_1.length c0_1), (.slice A0_2 l0_2.length c0_2)] 109 (0, 0))) ∧ Aside0 (Below w.heap.size w wc))
 case first =>
  have H := HC3.out
  clear HC3
  replace H := Option.bind_eq_some_iff.mp H
  obtain ⟨t297, A50, H⟩ := H
  replace H : (if t297 = 2 then (impl_ruleOk.j0 k a1 ((l0_1.length : Int) != (l0_2.length : Int)) l0_0 l0_1 l0_2) else (impl_ruleOk.j0 k a1 true l0_0 l0_1 l0_2)) = some r := H
  have A5 := Aside0.mk A50
  clear A50
  by_cases c6 : t297 = 2
  ·rw [if_pos c6] at H
   have c6b0 : (t297 == 2) = true := beq_iff_eq.mpr c6
   have c6b1 : (t297 != 2) = false := bne_eq_false_iff_eq.mpr c6
   clear c6
   (first | rw [c6b0] | (simp only [i64_w, i32_w]; rw [c6b0]) | skip)
   have H' := Aside0.mk H
   clear H
   have hcz7_0 : w4.cell? ⟨gb296, 0, none⟩ = some (.slice A0_0 l0_0.length c0_0) := (blk_cell BK296.out 0).trans rfl
   have hcz7_1 : w4.cell? ⟨gb296, 1, none⟩ = some (.slice A0_1 l0_1.length c0_1) := (blk_cell BK296.out 1).trans rfl
   have hcz7_2 : w4.cell? ⟨gb296, 2, none⟩ = some (.slice A0_2 l0_2.length c0_2) := (blk_cell BK296.out 2).trans rfl
   have hfz7_0 := blk_frozen BK296.out 0
   have hfz7_1 := blk_frozen BK296.out 1
   have hfz7_2 := blk_frozen BK296.out 2
   go_wp2_with (first | ((with_reducible refine gate_callee (f := 127) rfl ?_); refine goesL_ (some 10) rfl rfl Try.func127 (by kernel_rfl) rfl #[.slice A0_0 l0_0.length c0_0, .int .i64 a1] rfl lmB ?_; (with_reducible refine (impl_kindOf.calls k _ _ l0_0 a1 t297 _ ?side1 ?side2 A5.out).mono ?_); (case side1 => repeat (first | exact (Kd.C_below HR0_0.out HB.out) | (with_reducible refine Kd.C_alloc ?_ _) | (with_reducible refine Kd.C_drewN ?_ _) | (with_reducible refine Kd.C_drew ?_))); (case side2 => exact HC0_0.out); rintro e w8 ⟨rfl, hb⟩; refine ⟨_, rfl, ?_⟩; have n0_ := Aside0.mk (blk_below (g := gb296) (o := .cells #[.slice A0_0 l0_0.length c0_0, .slice A0_1 l0_1.length c0_1, .slice A0_2 l0_2.length c0_2] 109 (0, 0)) (bvK BK296.out) hb); have n1_ := Aside0.mk (below_step (by repeat (first | (with_reducible first | exact HB.out | apply bwA | apply bwN | apply bwD | refine below_set ?_ GE296.out) | exact HB.out)) hb); clear BK296; clear HB; have BK296 := n0_; have HB := n1_; clear n0_ n1_; (try clear hb); (try clear hb2); (try clear hk); (try clear hi); have hcz9_0 : w8.cell? ⟨gb296, 0, none⟩ = some (.slice A0_0 l0_0.length c0_0) := (blk_cell BK296.out 0).trans rfl; have hcz9_1 : w8.cell? ⟨gb296, 1, none⟩ = some (.slice A0_1 l0_1.length c0_1) := (blk_cell BK296.out 1).trans rfl; have hcz9_2 : w8.cell? ⟨gb296, 2, none⟩ = some (.slice A0_2 l0_2.length c0_2) := (blk_cell BK296.out 2).trans rfl; have hfz9_0 := blk_frozen BK296.out 0; have hfz9_1 := blk_frozen BK296.out 1; have hfz9_2 := blk_frozen BK296.out 2))
   go_meet
   case rel => exact ⟨_, (((l0_1.length : Int) != (l0_2.length : Int))), rsd, H', ⟨by first | omega | exact Nat.le_refl _⟩, ⟨bvK BK296.out⟩, ⟨by repeat (first | (with_reducible first | exact HB.out | apply bwA | apply bwN | apply bwD | refine below_set ?_ GE296.out) | exact HB.out)⟩⟩
  ·rw [if_neg c6] at H
   have c6b0 : (t297 == 2) = false := beq_eq_false_iff_ne.mpr c6
   have c6b1 : (t297 != 2) = true := bne_iff_ne.mpr c6
   (first | rw [c6b0] | (simp only [i64_w, i32_w]; rw [c6b0]) | skip)
   have H' := Aside0.mk H
   clear H
   have hcz10_0 : w4.cell? ⟨gb296, 0, none⟩ = some (.slice A0_0 l0_0.length c0_0) := (blk_cell BK296.out 0).trans rfl
   have hcz10_1 : w4.cell? ⟨gb296, 1, none⟩ = some (.slice A0_1 l0_1.length c0_1) := (blk_cell BK296.out 1).trans rfl
   have hcz10_2 : w4.cell? ⟨gb296, 2, none⟩ = some (.slice A0_2 l0_2.length c0_2) := (blk_cell BK296.out 2).trans rfl
   have hfz10_0 := blk_frozen BK296.out 0
   have hfz10_1 := blk_frozen BK296.out 1
   have hfz10_2 := blk_frozen BK296.out 2
   go_wp2_with (first | ((with_reducible refine gate_callee (f := 127) rfl ?_); refine goesL_ (some 10) rfl rfl Try.func127 (by kernel_rfl) rfl #[.slice A0_0 l0_0.length c0_0, .int .i64 a1] rfl lmB ?_; (with_reducible refine (impl_kindOf.calls k _ _ l0_0 a1 t297 _ ?side1 ?side2 A5.out).mono ?_); (case side1 => repeat (first | exact (Kd.C_below HR0_0.out HB.out) | (with_reducible refine Kd.C_alloc ?_ _) | (with_reducible refine Kd.C_drewN ?_ _) | (with_reducible refine Kd.C_drew ?_))); (case side2 => exact HC0_0.out); rintro e w11 ⟨rfl, hb⟩; refine ⟨_, rfl, ?_⟩; have n0_ := Aside0.mk (blk_below (g := gb296) (o := .cells #[.slice A0_0 l0_0.length c0_0, .slice A0_1 l0_1.length c0_1, .slice A0_2 l0_2.length c0_2] 109 (0, 0)) (bvK BK296.out) hb); have n1_ := Aside0.mk (below_step (by repeat (first | (with_reducible first | exact HB.out | apply bwA | apply bwN | apply bwD | refine below_set ?_ GE296.out) | exact HB.out)) hb); clear BK296; clear HB; have BK296 := n0_; have HB := n1_; clear n0_ n1_; (try clear hb); (try clear hb2); (try clear hk); (try clear hi)))
   go_meet
   case rel => exact ⟨_, (true), rsd, H', ⟨by first | omega | exact Nat.le_refl _⟩, ⟨bvK BK296.out⟩, ⟨by repeat (first | (with_reducible first | exact HB.out | apply bwA | apply bwN | apply bwD | refine below_set ?_ GE296.out) | exact HB.out)⟩⟩
 case rest =>
  clear HC3
  try clear c1
  try clear p2
  try clear c6
  try clear c6b0
  try clear c6b1
  try clear c9
  try clear hcz10_0
  try clear hcz10_1
  try clear hcz10_2
  try clear hcz7_0
  try clear hcz7_1
  try clear hcz7_2
  try clear hcz9_0
  try clear hcz9_1
  try clear hcz9_2
  try clear hfz10_0
  try clear hfz10_1
  try clear hfz10_2
  try clear hfz7_0
  try clear hfz7_1
  try clear hfz7_2
  try clear hfz9_0
  try clear hfz9_1
  try clear hfz9_2
  obtain ⟨kq, x20_2, rfl, HA, HJ2, BK296, HB⟩ := hcut
  cases kq with
  | zero => exact absurd HA.out (by simp [impl_ruleOk.j0])
  | succ kj2 =>
   have H := HA.out
   clear HA
   simp only [impl_ruleOk.j0] at H
   by_cases c12 : x20_2 = true
   ·subst c12
    have H1 : (some false) = some r := by rw [if_pos rfl] at H; exact H
    clear H
    have H := H1
    clear H1
    obtain rfl := Option.some.inj H
    go_wp2
    go_ret
    exact ⟨ers, by repeat (first | (with_reducible first | exact HB.out | apply bwA | apply bwN | apply bwD | refine below_set ?_ GE296.out) | exact HB.out)⟩
   ·replace c12 := Bool.eq_false_iff.mpr c12
    subst c12
    have H1 : (impl_ruleOk.l0 kj2 a1 l0_1 (l0_1.length : Int) 0 l0_0 l0_1 l0_2) = some r := by rw [if_neg (show ¬ (false = true) by decide)] at H; exact H
    clear H
    have H := H1
    clear H1
    have H' := Aside0.mk H
    clear H
    have hcz13_0 : wc.cell? ⟨gb296, 0, none⟩ = some (.slice A0_0 l0_0.length c0_0) := (blk_cell BK296.out 0).trans rfl
    have hcz13_1 : wc.cell? ⟨gb296, 1, none⟩ = some (.slice A0_1 l0_1.length c0_1) := (blk_cell BK296.out 1).trans rfl
    have hcz13_2 : wc.cell? ⟨gb296, 2, none⟩ = some (.slice A0_2 l0_2.length c0_2) := (blk_cell BK296.out 2).trans rfl
    have hfz13_0 := blk_frozen BK296.out 0
    have hfz13_1 := blk_frozen BK296.out 1
    have hfz13_2 := blk_frozen BK296.out 2
    go_wp2
    go_loopg [24] kj2 (fun kq v24 w' => ∃ (x24_2 : Int), v24 = .int .i64 x24_2 ∧ Aside0 (impl_ruleOk.l0 kq a1 l0_1 (l0_1.length : Int) x24_2 l0_0 l0_1 l0_2 = some r) ∧ Aside0 (kq ≤ kj2) ∧ Aside0 (w'.heap[gb296]? = some (.cells #[(.slice A0_0 l0_0.length c0_0), (.slice A0_1 l0_1.length c0_1), (.slice A0_2 l0_2.length c0_2)] 109 (0, 0))) ∧ Aside0 (Below w.heap.size w w'))
    case atStart => exact ⟨(0), rsd, H', ⟨Nat.le_refl _⟩, ⟨bvK BK296.out⟩, ⟨by repeat (first | (with_reducible first | exact HB.out | apply bwA | apply bwN | apply bwD | refine below_set ?_ GE296.out) | exact HB.out)⟩⟩
    case round =>
     clear H'
     try clear c1
     try clear p2
     try clear c6
     try clear c6b0
     try clear c6b1
     try clear c9
     try clear c12
     try clear hcz10_0
     try clear hcz10_1
     try clear hcz10_2
     try clear hcz13_0
     try clear hcz13_1
     try clear hcz13_2
     try clear hcz7_0
     try clear hcz7_1
     try clear hcz7_2
     try clear hcz9_0
     try clear hcz9_1
     try clear hcz9_2
     try clear hfz10_0
     try clear hfz10_1
     try clear hfz10_2
     try clear hfz13_0
     try clear hfz13_1
     try clear hfz13_2
     try clear hfz7_0
     try clear hfz7_1
     try clear hfz7_2
     try clear hfz9_0
     try clear hfz9_1
     try clear hfz9_2
     try clear p2
     obtain ⟨x24_2, rfl, HA, HK2, BK296, HB⟩ := hrel
     cases gk with
     | zero => exact absurd HA.out (by simp [impl_ruleOk.l0])
     | succ k2 =>
      have H := HA.out
      clear HA
      simp only [impl_ruleOk.l0] at H
      by_cases c14 : x24_2 < (l0_1.length : Int)
      ·rw [if_pos c14] at H
       have c14b0 : decide (x24_2 < (l0_1.length : Int)) = true := decide_eq_true c14
       clear c14
       by_cases c15 : 0 ≤ x24_2
       ·rw [if_pos c15] at H
        have c15b0 : decide (0 ≤ x24_2) = true := decide_eq_true c15
        clear c15
        by_cases c16 : x24_2 < (l0_1.length : Int)
        ·rw [if_pos c16] at H
         have c16b0 : decide (x24_2 < (l0_1.length : Int)) = true := decide_eq_true c16
         clear c16
         replace H := Option.bind_eq_some_iff.mp H
         obtain ⟨t299, A170, H⟩ := H
         replace H : (if t299 = true then (if x24_2 > 0 then (if 0 ≤ (wrap64 (x24_2 - 1)) then (if (wrap64 (x24_2 - 1)) < (l0_1.length : Int) then (if (rd l0_1 (wrap64 (x24_2 - 1))) ≥ (rd l0_1 x24_2) then (some false) else (if x24_2 < (l0_2.length : Int) then ((impl_kindOf.f k2 (rd_L9 l0_2 x24_2) a1).bind fun t302 => (if t302 = 1 then (impl_ruleOk.l0 k2 a1 l0_1 (l0_1.length : Int) (wrap64 (x24_2 + 1)) l0_0 l0_1 l0_2) else (some false))) else (none))) else (none)) else (none)) else (if x24_2 < (l0_2.length : Int) then ((impl_kindOf.f k2 (rd_L9 l0_2 x24_2) a1).bind fun t304 => (if t304 = 1 then (impl_ruleOk.l0 k2 a1 l0_1 (l0_1.length : Int) (wrap64 (x24_2 + 1)) l0_0 l0_1 l0_2) else (some false))) else (none))) else (some false)) = some r := H
         have A17 := Aside0.mk A170
         clear A170
         by_cases c18 : t299 = true
         ·subst c18
          have H1 : (if x24_2 > 0 then (if 0 ≤ (wrap64 (x24_2 - 1)) then (if (wrap64 (x24_2 - 1)) < (l0_1.length : Int) then (if (rd l0_1 (wrap64 (x24_2 - 1))) ≥ (rd l0_1 x24_2) then (some false) else (if x24_2 < (l0_2.length : Int) then ((impl_kindOf.f k2 (rd_L9 l0_2 x24_2) a1).bind fun t302 => (if t302 = 1 then (impl_ruleOk.l0 k2 a1 l0_1 (l0_1.length : Int) (wrap64 (x24_2 + 1)) l0_0 l0_1 l0_2) else (some false))) else (none))) else (none)) else (none)) else (if x24_2 < (l0_2.length : Int) then ((impl_kindOf.f k2 (rd_L9 l0_2 x24_2) a1).bind fun t304 => (if t304 = 1 then (impl_ruleOk.l0 k2 a1 l0_1 (l0_1.length : Int) (wrap64 (x24_2 + 1)) l0_0 l0_1 l0_2) else (some false))) else (none))) = some r := by rw [if_pos rfl] at H; exact H
          clear H
          have H := H1
          clear H1
          by_cases c19 : x24_2 > 0
          ·rw [if_pos c19] at H
           have c19b0 : decide (0 < x24_2) = true := decide_eq_true c19
           clear c19
           obtain ⟨ji20, hji20⟩ : ∃ j_ : Int, (wrap64 (x24_2 - 1)) = j_ := ⟨_, rfl⟩
           replace H : (if 0 ≤ (ji20) then (if (ji20) < (l0_1.length : Int) then (if (rd l0_1 (ji20)) ≥ (rd l0_1 x24_2) then (some false) else (if x24_2 < (l0_2.length : Int) then ((impl_kindOf.f k2 (rd_L9 l0_2 x24_2) a1).bind fun t302 => (if t302 = 1 then (impl_ruleOk.l0 k2 a1 l0_1 (l0_1.length : Int) (wrap64 (x24_2 + 1)) l0_0 l0_1 l0_2) else (some false))) else (none))) else (none)) else (none)) = some r := by first | (rw [hji20] at H; exact H) | (simp only [hji20] at H ⊢; exact H)
           (try rw [hji20] at A17)
           have hji20w : (IntKind.i64.wrap (x24_2 - 1)) = ji20 := (i64_w _).trans hji20
           by_cases c21 : 0 ≤ (ji20)
           ·rw [if_pos c21] at H
            have c21b0 : decide (0 ≤ (ji20)) = true := decide_eq_true c21
            clear c21
            by_cases c22 : (ji20) < (l0_1.length : Int)
            ·rw [if_pos c22] at H
             have c22b0 : decide ((ji20) < (l0_1.length : Int)) = true := decide_eq_true c22
             clear c22
             by_cases c23 : (rd l0_1 (ji20)) ≥ (rd l0_1 x24_2)
             ·rw [if_pos c23] at H
              have c23b0 : decide ((rd l0_1 x24_2) ≤ (rd l0_1 (ji20))) = true := decide_eq_true c23
              clear c23
              obtain rfl := Option.some.inj H
              have p298 : 0 ≤ (x24_2 : Int) := oda
              have q298 : x24_2 < (l0_1.length : Int) := oda
              obtain ⟨ad298, e298, hx298_0⟩ := Kd.at_int HR0_1.out x24_2 p298 q298
              cases e298
              try replace hx298_0 := bct HB.out hx298_0
              replace p298 := eq_true p298
              replace q298 := eq_true q298
              (try rw [hl301_0] at c22b0)
              (try rw [hl303_0] at c22b0)
              go_wp2_with (first | ((with_reducible refine gate_callee (f := 62) rfl ?_); refine goesL_ (some 32) rfl rfl Try.func62 (by kernel_rfl) rfl #[.int .i64 (rd l0_1 x24_2), .int .i64 0, .int .i64 (wrap64 (a1 - 1))] rfl lmB ?_; (with_reducible refine (impl_in.calls (rd l0_1 x24_2) 0 (wrap64 (a1 - 1)) true _ A17.out).mono ?_); rintro e w' ⟨rfl, ⟨nd, rfl⟩⟩; refine ⟨_, rfl, ?_⟩; have hcz24_0 : wr.cell? ⟨gb296, 0, none⟩ = some (.slice A0_0 l0_0.length c0_0) := (blk_cell BK296.out 0).trans rfl; have hcz24_1 : wr.cell? ⟨gb296, 1, none⟩ = some (.slice (some ad298) l0_1.length c0_1) := (blk_cell BK296.out 1).trans rfl; have hcz24_2 : wr.cell? ⟨gb296, 2, none⟩ = some (.slice A0_2 l0_2.length c0_2) := (blk_cell BK296.out 2).trans rfl; have hfz24_0 := blk_frozen BK296.out 0; have hfz24_1 := blk_frozen BK296.out 1; have hfz24_2 := blk_frozen BK296.out 2; have p300 : 0 ≤ ((ji20) : Int) := oda; have q300 : (ji20) < (l0_1.length : Int) := oda; obtain ⟨ad300, e300, hx300_0⟩ := Kd.at_int HR0_1.out (ji20) p300 q300; obtain rfl : ad298 = ad300 := (by injection e300); replace hx300_0 := bct HB.out hx300_0; replace p300 := eq_true p300; replace q300 := eq_true q300))
              go_ret
              exact ⟨by first | rfl | (simp [errW_none, errW_some] <;> rfl) | (simp only [← hji20]; first | rfl | (simp [errW_none, errW_some] <;> rfl)) | (simp [*, errW_none, errW_some] <;> rfl), by repeat (first | (with_reducible first | exact HB.out | apply bwA | apply bwN | apply bwD | refine below_set ?_ GE296.out) | exact HB.out)⟩
             ·rw [if_neg c23] at H
              have c23b0 : decide ((rd l0_1 x24_2) ≤ (rd l0_1 (ji20))) = false := decide_eq_false c23
              clear c23
              by_cases c25 : x24_2 < (l0_2.length : Int)
              ·rw [if_pos c25] at H
               have c25b0 : decide (x24_2 < (l0_2.length : Int)) = true := decide_eq_true c25
               clear c25
               replace H := Option.bind_eq_some_iff.mp H
               obtain ⟨t302, A260, H⟩ := H
               replace H : (if t302 = 1 then (impl_ruleOk.l0 k2 a1 l0_1 (l0_1.length : Int) (wrap64 (x24_2 + 1)) l0_0 l0_1 l0_2) else (some false)) = some r := H
               have A26 := Aside0.mk A260
               clear A260
               by_cases c27 : t302 = 1
               ·rw [if_pos c27] at H
                have c27b0 : (t302 == 1) = true := beq_iff_eq.mpr c27
                have c27b1 : (t302 != 1) = false := bne_eq_false_iff_eq.mpr c27
                clear c27
                have H' := Aside0.mk H
                clear H
                have p298 : 0 ≤ (x24_2 : Int) := oda
                have q298 : x24_2 < (l0_1.length : Int) := oda
                obtain ⟨ad298, e298, hx298_0⟩ := Kd.at_int HR0_1.out x24_2 p298 q298
                cases e298
                try replace hx298_0 := bct HB.out hx298_0
                replace p298 := eq_true p298
                replace q298 := eq_true q298
                go_wp2_with (first | ((with_reducible refine gate_callee (f := 62) rfl ?_); refine goesL_ (some 32) rfl rfl Try.func62 (by kernel_rfl) rfl #[.int .i64 (rd l0_1 x24_2), .int .i64 0, .int .i64 (wrap64 (a1 - 1))] rfl lmB ?_; (with_reducible refine (impl_in.calls (rd l0_1 x24_2) 0 (wrap64 (a1 - 1)) true _ A17.out).mono ?_); rintro e w' ⟨rfl, ⟨nd, rfl⟩⟩; refine ⟨_, rfl, ?_⟩; have hcz28_0 : wr.cell? ⟨gb296, 0, none⟩ = some (.slice A0_0 l0_0.length c0_0) := (blk_cell BK296.out 0).trans rfl; have hcz28_1 : wr.cell? ⟨gb296, 1, none⟩ = some (.slice (some ad298) l0_1.length c0_1) := (blk_cell BK296.out 1).trans rfl; have hcz28_2 : wr.cell? ⟨gb296, 2, none⟩ = some (.slice A0_2 l0_2.length c0_2) := (blk_cell BK296.out 2).trans rfl; have hfz28_0 := blk_frozen BK296.out 0; have hfz28_1 := blk_frozen BK296.out 1; have hfz28_2 := blk_frozen BK296.out 2; have p300 : 0 ≤ ((ji20) : Int) := oda; have q300 : (ji20) < (l0_1.length : Int) := oda; obtain ⟨ad300, e300, hx300_0⟩ := Kd.at_int HR0_1.out (ji20) p300 q300; obtain rfl : ad298 = ad300 := (by injection e300); replace hx300_0 := bct HB.out hx300_0; replace p300 := eq_true p300; replace q300 := eq_true q300; have p301 : 0 ≤ (x24_2 : Int) := oda; have q301 : x24_2 < (l0_2.length : Int) := oda; obtain ⟨ad301, A301_0, c301_0, e301, hx301_0, hl301_0, hi301_0⟩ := at_L9 HR0_2.out x24_2 p301 q301; cases e301; replace hx301_0 := bct HB.out hx301_0; have HR301_0 := Aside0.mk hi301_0; have HC301_0 := Aside0.mk hl301_0; clear hi301_0 hl301_0; replace p301 := eq_true p301; replace q301 := eq_true q301) | (go_at_call 127; (with_reducible refine (impl_kindOf.calls k2 _ _ (rd_L9 l0_2 x24_2) a1 t302 _ ?side1 ?side2 A26.out).mono ?_); (case side1 => repeat (first | exact (Kd.C_below HR301_0.out (by repeat (first | (with_reducible first | exact HB.out | apply bwA | apply bwN | apply bwD | refine below_set ?_ GE296.out) | exact HB.out))) | (with_reducible refine Kd.C_alloc ?_ _) | (with_reducible refine Kd.C_drewN ?_ _) | (with_reducible refine Kd.C_drew ?_))); (case side2 => exact HC301_0.out); rintro e w29 ⟨rfl, hb⟩; have n0_ := Aside0.mk (blk_below (g := gb296) (o := .cells #[.slice A0_0 l0_0.length c0_0, .slice (some ad298) l0_1.length c0_1, .slice (some ad301) l0_2.length c0_2] 109 (0, 0)) (bvK BK296.out) hb); have n1_ := Aside0.mk (below_step (by repeat (first | (with_reducible first | exact HB.out | apply bwA | apply bwN | apply bwD | refine below_set ?_ GE296.out) | exact HB.out)) hb); clear BK296; clear HB; have BK296 := n0_; have HB := n1_; clear n0_ n1_; (try clear hb); (try clear hb2); (try clear hk); (try clear hi)))
                go_roundg k2
                case measure => have := HJ2.out; have := HK2.out; omega
                case rel => exact ⟨(wrap64 (x24_2 + 1)), rsd, H', ⟨by have := HJ2.out; have := HK2.out; omega⟩, ⟨bvK BK296.out⟩, ⟨by repeat (first | (with_reducible first | exact HB.out | apply bwA | apply bwN | apply bwD | refine below_set ?_ GE296.out) | exact HB.out)⟩⟩
               ·rw [if_neg c27] at H
                have c27b0 : (t302 == 1) = false := beq_eq_false_iff_ne.mpr c27
                have c27b1 : (t302 != 1) = true := bne_iff_ne.mpr c27
                obtain rfl := Option.some.inj H
                have p298 : 0 ≤ (x24_2 : Int) := oda
                have q298 : x24_2 < (l0_1.length : Int) := oda
                obtain ⟨ad298, e298, hx298_0⟩ := Kd.at_int HR0_1.out x24_2 p298 q298
                cases e298
                try replace hx298_0 := bct HB.out hx298_0
                replace p298 := eq_true p298
                replace q298 := eq_true q298
                go_wp2_with (first | ((with_reducible refine gate_callee (f := 62) rfl ?_); refine goesL_ (some 32) rfl rfl Try.func62 (by kernel_rfl) rfl #[.int .i64 (rd l0_1 x24_2), .int .i64 0, .int .i64 (wrap64 (a1 - 1))] rfl lmB ?_; (with_reducible refine (impl_in.calls (rd l0_1 x24_2) 0 (wrap64 (a1 - 1)) true _ A17.out).mono ?_); rintro e w' ⟨rfl, ⟨nd, rfl⟩⟩; refine ⟨_, rfl, ?_⟩; have hcz30_0 : wr.cell? ⟨gb296, 0, none⟩ = some (.slice A0_0 l0_0.length c0_0) := (blk_cell BK296.out 0).trans rfl; have hcz30_1 : wr.cell? ⟨gb296, 1, none⟩ = some (.slice (some ad298) l0_1.length c0_1) := (blk_cell BK296.out 1).trans rfl; have hcz30_2 : wr.cell? ⟨gb296, 2, none⟩ = some (.slice A0_2 l0_2.length c0_2) := (blk_cell BK296.out 2).trans rfl; have hfz30_0 := blk_frozen BK296.out 0; have hfz30_1 := blk_frozen BK296.out 1; have hfz30_2 := blk_frozen BK296.out 2; have p300 : 0 ≤ ((ji20) : Int) := oda; have q300 : (ji20) < (l0_1.length : Int) := oda; obtain ⟨ad300, e300, hx300_0⟩ := Kd.at_int HR0_1.out (ji20) p300 q300; obtain rfl : ad298 = ad300 := (by injection e300); replace hx300_0 := bct HB.out hx300_0; replace p300 := eq_true p300; replace q300 := eq_true q300; have p301 : 0 ≤ (x24_2 : Int) := oda; have q301 : x24_2 < (l0_2.length : Int) := oda; obtain ⟨ad301, A301_0, c301_0, e301, hx301_0, hl301_0, hi301_0⟩ := at_L9 HR0_2.out x24_2 p301 q301; cases e301; replace hx301_0 := bct HB.out hx301_0; have HR301_0 := Aside0.mk hi301_0; have HC301_0 := Aside0.mk hl301_0; clear hi301_0 hl301_0; replace p301 := eq_true p301; replace q301 := eq_true q301) | (go_at_call 127; (with_reducible refine (impl_kindOf.calls k2 _ _ (rd_L9 l0_2 x24_2) a1 t302 _ ?side1 ?side2 A26.out).mono ?_); (case side1 => repeat (first | exact (Kd.C_below HR301_0.out (by repeat (first | (with_reducible first | exact HB.out | apply bwA | apply bwN | apply bwD | refine below_set ?_ GE296.out) | exact HB.out))) | (with_reducible refine Kd.C_alloc ?_ _) | (with_reducible refine Kd.C_drewN ?_ _) | (with_reducible refine Kd.C_drew ?_))); (case side2 => exact HC301_0.out); rintro e w31 ⟨rfl, hb⟩; have n0_ := Aside0.mk (blk_below (g := gb296) (o := .cells #[.slice A0_0 l0_0.length c0_0, .slice (some ad298) l0_1.length c0_1, .slice (some ad301) l0_2.length c0_2] 109 (0, 0)) (bvK BK296.out) hb); have n1_ := Aside0.mk (below_step (by repeat (first | (with_reducible first | exact HB.out | apply bwA | apply bwN | apply bwD | refine below_set ?_ GE296.out) | exact HB.out)) hb); clear BK296; clear HB; have BK296 := n0_; have HB := n1_; clear n0_ n1_; (try clear hb); (try clear hb2); (try clear hk); (try clear hi)))
                go_ret
                exact ⟨by first | rfl | (simp [errW_none, errW_some] <;> rfl) | (simp only [← hji20]; first | rfl | (simp [errW_none, errW_some] <;> rfl)) | (simp [*, errW_none, errW_some] <;> rfl), by repeat (first | (with_reducible first | exact HB.out | apply bwA | apply bwN | apply bwD | refine below_set ?_ GE296.out) | exact HB.out)⟩
              ·rw [if_neg c25] at H
               exact absurd H (by simp)
            ·rw [if_neg c22] at H
             exact absurd H (by simp)
           ·rw [if_neg c21] at H
            exact absurd H (by simp)
          ·rw [if_neg c19] at H
           have c19b0 : decide (0 < x24_2) = false := decide_eq_false c19
           clear c19
           by_cases c32 : x24_2 < (l0_2.length : Int)
           ·rw [if_pos c32] at H
            have c32b0 : decide (x24_2 < (l0_2.length : Int)) = true := decide_eq_true c32
            clear c32
            replace H := Option.bind_eq_some_iff.mp H
            obtain ⟨t304, A330, H⟩ := H
            replace H : (if t304 = 1 then (impl_ruleOk.l0 k2 a1 l0_1 (l0_1.length : Int) (wrap64 (x24_2 + 1)) l0_0 l0_1 l0_2) else (some false)) = some r := H
            have A33 := Aside0.mk A330
            clear A330
            by_cases c34 : t304 = 1
            ·rw [if_pos c34] at H
             have c34b0 : (t304 == 1) = true := beq_iff_eq.mpr c34
             have c34b1 : (t304 != 1) = false := bne_eq_false_iff_eq.mpr c34
             clear c34
             have H' := Aside0.mk H
             clear H
             have p298 : 0 ≤ (x24_2 : Int) := oda
             have q298 : x24_2 < (l0_1.length : Int) := oda
             obtain ⟨ad298, e298, hx298_0⟩ := Kd.at_int HR0_1.out x24_2 p298 q298
             cases e298
             try replace hx298_0 := bct HB.out hx298_0
             replace p298 := eq_true p298
             replace q298 := eq_true q298
             go_wp2_with (first | ((with_reducible refine gate_callee (f := 62) rfl ?_); refine goesL_ (some 32) rfl rfl Try.func62 (by kernel_rfl) rfl #[.int .i64 (rd l0_1 x24_2), .int .i64 0, .int .i64 (wrap64 (a1 - 1))] rfl lmB ?_; (with_reducible refine (impl_in.calls (rd l0_1 x24_2) 0 (wrap64 (a1 - 1)) true _ A17.out).mono ?_); rintro e w' ⟨rfl, ⟨nd, rfl⟩⟩; refine ⟨_, rfl, ?_⟩; have hcz35_0 : wr.cell? ⟨gb296, 0, none⟩ = some (.slice A0_0 l0_0.length c0_0) := (blk_cell BK296.out 0).trans rfl; have hcz35_1 : wr.cell? ⟨gb296, 1, none⟩ = some (.slice (some ad298) l0_1.length c0_1) := (blk_cell BK296.out 1).trans rfl; have hcz35_2 : wr.cell? ⟨gb296, 2, none⟩ = some (.slice A0_2 l0_2.length c0_2) := (blk_cell BK296.out 2).trans rfl; have hfz35_0 := blk_frozen BK296.out 0; have hfz35_1 := blk_frozen BK296.out 1; have hfz35_2 := blk_frozen BK296.out 2; have p303 : 0 ≤ (x24_2 : Int) := oda; have q303 : x24_2 < (l0_2.length : Int) := oda; obtain ⟨ad303, A303_0, c303_0, e303, hx303_0, hl303_0, hi303_0⟩ := at_L9 HR0_2.out x24_2 p303 q303; cases e303; replace hx303_0 := bct HB.out hx303_0; have HR303_0 := Aside0.mk hi303_0; have HC303_0 := Aside0.mk hl303_0; clear hi303_0 hl303_0; replace p303 := eq_true p303; replace q303 := eq_true q303) | (go_at_call 127; (with_reducible refine (impl_kindOf.calls k2 _ _ (rd_L9 l0_2 x24_2) a1 t304 _ ?side1 ?side2 A33.out).mono ?_); (case side1 => repeat (first | exact (Kd.C_below HR303_0.out (by repeat (first | (with_reducible first | exact HB.out | apply bwA | apply bwN | apply bwD | refine below_set ?_ GE296.out) | exact HB.out))) | (with_reducible refine Kd.C_alloc ?_ _) | (with_reducible refine Kd.C_drewN ?_ _) | (with_reducible refine Kd.C_drew ?_))); (case side2 => exact HC303_0.out); rintro e w36 ⟨rfl, hb⟩; have n0_ := Aside0.mk (blk_below (g := gb296) (o := .cells #[.slice A0_0 l0_0.length c0_0, .slice (some ad298) l0_1.length c0_1, .slice (some ad303) l0_2.length c0_2] 109 (0, 0)) (bvK BK296.out) hb); have n1_ := Aside0.mk (below_step (by repeat (first | (with_reducible first | exact HB.out | apply bwA | apply bwN | apply bwD | refine below_set ?_ GE296.out) | exact HB.out)) hb); clear BK296; clear HB; have BK296 := n0_; have HB := n1_; clear n0_ n1_; (try clear hb); (try clear hb2); (try clear hk); (try clear hi)))
             go_roundg k2
             case measure => have := HJ2.out; have := HK2.out; omega
             case rel => exact ⟨(wrap64 (x24_2 + 1)), rsd, H', ⟨by have := HJ2.out; have := HK2.out; omega⟩, ⟨bvK BK296.out⟩, ⟨by repeat (first | (with_reducible first | exact HB.out | apply bwA | apply bwN | apply bwD | refine below_set ?_ GE296.out) | exact HB.out)⟩⟩
            ·rw [if_neg c34] at H
             have c34b0 : (t304 == 1) = false := beq_eq_false_iff_ne.mpr c34
             have c34b1 : (t304 != 1) = true := bne_iff_ne.mpr c34
             obtain rfl := Option.some.inj H
             have p298 : 0 ≤ (x24_2 : Int) := oda
             have q298 : x24_2 < (l0_1.length : Int) := oda
             obtain ⟨ad298, e298, hx298_0⟩ := Kd.at_int HR0_1.out x24_2 p298 q298
             cases e298
             try replace hx298_0 := bct HB.out hx298_0
             replace p298 := eq_true p298
             replace q298 := eq_true q298
             go_wp2_with (first | ((with_reducible refine gate_callee (f := 62) rfl ?_); refine goesL_ (some 32) rfl rfl Try.func62 (by kernel_rfl) rfl #[.int .i64 (rd l0_1 x24_2), .int .i64 0, .int .i64 (wrap64 (a1 - 1))] rfl lmB ?_; (with_reducible refine (impl_in.calls (rd l0_1 x24_2) 0 (wrap64 (a1 - 1)) true _ A17.out).mono ?_); rintro e w' ⟨rfl, ⟨nd, rfl⟩⟩; refine ⟨_, rfl, ?_⟩; have hcz37_0 : wr.cell? ⟨gb296, 0, none⟩ = some (.slice A0_0 l0_0.length c0_0) := (blk_cell BK296.out 0).trans rfl; have hcz37_1 : wr.cell? ⟨gb296, 1, none⟩ = some (.slice (some ad298) l0_1.length c0_1) := (blk_cell BK296.out 1).trans rfl; have hcz37_2 : wr.cell? ⟨gb296, 2, none⟩ = some (.slice A0_2 l0_2.length c0_2) := (blk_cell BK296.out 2).trans rfl; have hfz37_0 := blk_frozen BK296.out 0; have hfz37_1 := blk_frozen BK296.out 1; have hfz37_2 := blk_frozen BK296.out 2; have p303 : 0 ≤ (x24_2 : Int) := oda; have q303 : x24_2 < (l0_2.length : Int) := oda; obtain ⟨ad303, A303_0, c303_0, e303, hx303_0, hl303_0, hi303_0⟩ := at_L9 HR0_2.out x24_2 p303 q303; cases e303; replace hx303_0 := bct HB.out hx303_0; have HR303_0 := Aside0.mk hi303_0; have HC303_0 := Aside0.mk hl303_0; clear hi303_0 hl303_0; replace p303 := eq_true p303; replace q303 := eq_true q303) | (go_at_call 127; (with_reducible refine (impl_kindOf.calls k2 _ _ (rd_L9 l0_2 x24_2) a1 t304 _ ?side1 ?side2 A33.out).mono ?_); (case side1 => repeat (first | exact (Kd.C_below HR303_0.out (by repeat (first | (with_reducible first | exact HB.out | apply bwA | apply bwN | apply bwD | refine below_set ?_ GE296.out) | exact HB.out))) | (with_reducible refine Kd.C_alloc ?_ _) | (with_reducible refine Kd.C_drewN ?_ _) | (with_reducible refine Kd.C_drew ?_))); (case side2 => exact HC303_0.out); rintro e w38 ⟨rfl, hb⟩; have n0_ := Aside0.mk (blk_below (g := gb296) (o := .cells #[.slice A0_0 l0_0.length c0_0, .slice (some ad298) l0_1.length c0_1, .slice (some ad303) l0_2.length c0_2] 109 (0, 0)) (bvK BK296.out) hb); have n1_ := Aside0.mk (below_step (by repeat (first | (with_reducible first | exact HB.out | apply bwA | apply bwN | apply bwD | refine below_set ?_ GE296.out) | exact HB.out)) hb); clear BK296; clear HB; have BK296 := n0_; have HB := n1_; clear n0_ n1_; (try clear hb); (try clear hb2); (try clear hk); (try clear hi)))
             go_ret
             exact ⟨ers, by repeat (first | (with_reducible first | exact HB.out | apply bwA | apply bwN | apply bwD | refine below_set ?_ GE296.out) | exact HB.out)⟩
           ·rw [if_neg c32] at H
            exact absurd H (by simp)
         ·replace c18 := Bool.eq_false_iff.mpr c18
          subst c18
          have H1 : (some false) = some r := by rw [if_neg (show ¬ (false = true) by decide)] at H; exact H
          clear H
          have H := H1
          clear H1
          obtain rfl := Option.some.inj H
          have p298 : 0 ≤ (x24_2 : Int) := oda
          have q298 : x24_2 < (l0_1.length : Int) := oda
          obtain ⟨ad298, e298, hx298_0⟩ := Kd.at_int HR0_1.out x24_2 p298 q298
          cases e298
          try replace hx298_0 := bct HB.out hx298_0
          replace p298 := eq_true p298
          replace q298 := eq_true q298
          go_wp2_with (first | ((with_reducible refine gate_callee (f := 62) rfl ?_); refine goesL_ (some 32) rfl rfl Try.func62 (by kernel_rfl) rfl #[.int .i64 (rd l0_1 x24_2), .int .i64 0, .int .i64 (wrap64 (a1 - 1))] rfl lmB ?_; (with_reducible refine (impl_in.calls (rd l0_1 x24_2) 0 (wrap64 (a1 - 1)) false _ A17.out).mono ?_); rintro e w' ⟨rfl, ⟨nd, rfl⟩⟩; refine ⟨_, rfl, ?_⟩))
          go_ret
          exact ⟨ers, by repeat (first | (with_reducible first | exact HB.out | apply bwA | apply bwN | apply bwD | refine below_set ?_ GE296.out) | exact HB.out)⟩
        ·rw [if_neg c16] at H
         exact absurd H (by simp)
       ·rw [if_neg c15] at H
        exact absurd H (by simp)
      ·rw [if_neg c14] at H
       have c14b0 : decide (x24_2 < (l0_1.length : Int)) = false := decide_eq_false c14
       clear c14
       obtain rfl := Option.some.inj H
       (try rw [hl301_0] at c14b0)
       (try rw [hl303_0] at c14b0)
       go_wp2
       go_ret
       exact ⟨ers, by repeat (first | (with_reducible first | exact HB.out | apply bwA | apply bwN | apply bwD | refine below_set ?_ GE296.out) | exact HB.out)⟩

/-! ### impl_SystemValid: function 41 -/
def impl_SystemValid.p1 (l0_0 : List (S99)) (i : Int) : Option Bool := (impl_varOk.f (rd_T99 l0_0 i).f0 (rd_T99 l0_0 i).f1 (rd_T99 l0_0 i).f2).bind fun b => some (!b)
def impl_SystemValid.p2 (k : Nat) (l0_0 : List (S99)) (l0_1 : List (S109)) (i : Int) : Option Bool := (impl_ruleOk.f k (rd_T109 l0_1 i).f0 (rd_T109 l0_1 i).f1 (rd_T109 l0_1 i).f2 (l0_0.length : Int)).bind fun b => some (!b)
theorem impl_SystemValid_pred1 (l0 : List (S99)) (w : World) : ∀ (i : Int), 0 ≤ i → i < l0.length → ∀ b, impl_SystemValid.p1 l0 i = some b → ∀ W, Below w.heap.size w W → Calls Try.prog 87 (#[.agg #[.int .i64 (rd_T99 l0 i).f0, .int .i64 (rd_T99 l0 i).f1, .int .i64 (rd_T99 l0 i).f2]] ++ #[]) W fun e w' => e = .returned (.bool b) ∧ Below W.heap.size W w' := by
 intro i h0 h1 b hb W hW
 unfold impl_SystemValid.p1 at hb
 obtain ⟨b1, hb1, hb2⟩ := Option.bind_eq_some_iff.mp hb
 obtain rfl := Option.some.inj hb2
 have hu_ := Try.underlying99
 have HQ := Aside0.mk hb1
 clear hb hb2 hb1 hW h0 h1
 show Calls Try.prog 87 #[.agg #[.int .i64 (rd_T99 l0 i).f0, .int .i64 (rd_T99 l0 i).f1, .int .i64 (rd_T99 l0 i).f2]] W _
 generalize (rd_T99 l0 i).f0 = x at HQ ⊢
 generalize (rd_T99 l0 i).f1 = y at HQ ⊢
 generalize (rd_T99 l0 i).f2 = z at HQ ⊢
 cases b1
 all_goals
  go_enter Try.func87, Try.ntmps87
  go_wp2_with (first
   | ((with_reducible refine gate_dst (N := 1) rfl ?_); refine box_event ?hg (N := 1) ?hd (cs := #[.int .i64 x, .int .i64 y, .int .i64 z]) (t := 99) ?hr ?_; (case hd => rfl); (case hg => rfl); (case hr => first | (go_simp; done) | (go_simp; rfl)); intro gb hg w3 hbox hb; have BK := Aside0.mk hbox; have HB := Aside0.mk hb; have hc0 : w3.cell? ⟨gb, 0, none⟩ = some (.int .i64 x) := (blk_cell BK.out 0).trans rfl; have hc1 : w3.cell? ⟨gb, 1, none⟩ = some (.int .i64 y) := (blk_cell BK.out 1).trans rfl; have hc2 : w3.cell? ⟨gb, 2, none⟩ = some (.int .i64 z) := (blk_cell BK.out 2).trans rfl; clear hg hbox hb)
   | (go_at_call 88; (with_reducible refine (impl_varOk.calls x y z _ _ HQ.out).mono ?_); rintro e w' ⟨rfl, HB1⟩))
  go_ret
  exact ⟨by first | rfl | simp, below_step HB.out HB1⟩
theorem impl_SystemValid_pred2 (k : Nat) (l0_0 : List (S99)) (l0 : List (S109)) (A0_0 : Option Addr) (c0_0 : Nat) (v : Value) (gb : Nat) (w : World) (BK : w.heap[gb]? = some (.cells #[.slice A0_0 l0_0.length c0_0, v] 58 (0, 0))) :
  ∀ (i : Int), 0 ≤ i → i < l0.length → ∀ b, impl_SystemValid.p2 k l0_0 l0 i = some b → ∀ W, Below w.heap.size w W → ∀ A0 c0 A1 c1 A2 c2, k73.C W A0 (rd_T109 l0 i).f0.length (rd_T109 l0 i).f0 → (rd_T109 l0 i).f0.length ≤ c0 → (Kd.int .i64).C W A1 (rd_T109 l0 i).f1.length (rd_T109 l0 i).f1 → (rd_T109 l0 i).f1.length ≤ c1 → (Kd.slice 73 k73).C W A2 (rd_T109 l0 i).f2.length (rd_T109 l0 i).f2 → (rd_T109 l0 i).f2.length ≤ c2 → Calls Try.prog 90 (#[.agg #[.slice A0 (rd_T109 l0 i).f0.length c0, .slice A1 (rd_T109 l0 i).f1.length c1, .slice A2 (rd_T109 l0 i).f2.length c2]] ++ #[.pointer (some ⟨gb, 0, none⟩)]) W fun e w' => e = .returned (.bool b) ∧ Below W.heap.size W w' := by
 intro i h0 h1 b hb W hW A0 c0 A1 c1 A2 c2 r0 l0_ r1 l1_ r2 l2_
 unfold impl_SystemValid.p2 at hb
 obtain ⟨b1, hb1, hb2⟩ := Option.bind_eq_some_iff.mp hb
 obtain rfl := Option.some.inj hb2
 have hu_ := Try.underlying109
 have hu2_ := Try.underlying58
 have HQ := Aside0.mk hb1
 have BK1 := Aside0.mk (blk_below BK hW)
 have R0 := Aside0.mk r0
 have R1 := Aside0.mk r1
 have R2 := Aside0.mk r2
 have L0 := Aside0.mk l0_
 have L1 := Aside0.mk l1_
 have L2 := Aside0.mk l2_
 have LT_ := Aside0.mk (blk_lt (blk_below BK hW))
 clear hb hb2 hb1 hW h0 h1 BK r0 r1 r2 l0_ l1_ l2_
 show Calls Try.prog 90 #[.agg #[.slice A0 (rd_T109 l0 i).f0.length c0, .slice A1 (rd_T109 l0 i).f1.length c1, .slice A2 (rd_T109 l0 i).f2.length c2], .pointer (some ⟨gb, 0, none⟩)] W _
 generalize (rd_T109 l0 i).f0 = x at HQ R0 L0 ⊢
 generalize (rd_T109 l0 i).f1 = y at HQ R1 L1 ⊢
 generalize (rd_T109 l0 i).f2 = z at HQ R2 L2 ⊢
 cases b1
 all_goals
  go_enter Try.func90, Try.ntmps90
  go_wp2_with (first
   | ((with_reducible refine gate_dst (N := 2) rfl ?_); refine box_event ?hg (N := 2) ?hd (cs := #[.slice A0 x.length c0, .slice A1 y.length c1, .slice A2 z.length c2]) (t := 109) ?hr ?_; (case hd => rfl); (case hg => rfl); (case hr => first | (go_simp; done) | (go_simp; rfl)); intro gb2 hg w3 hbox hb; have BK := Aside0.mk hbox; have HB := Aside0.mk hb; have BK2 := Aside0.mk (blk_below BK1.out hb); have hc0 : w3.cell? ⟨gb2, 0, none⟩ = some (.slice A0 x.length c0) := (blk_cell BK.out 0).trans rfl; have hc1 : w3.cell? ⟨gb2, 1, none⟩ = some (.slice A1 y.length c1) := (blk_cell BK.out 1).trans rfl; have hc2 : w3.cell? ⟨gb2, 2, none⟩ = some (.slice A2 z.length c2) := (blk_cell BK.out 2).trans rfl; have hd0 : w3.cell? ⟨gb, 0, none⟩ = some (.slice A0_0 l0_0.length c0_0) := (blk_cell BK2.out 0).trans rfl; clear hg hbox hb)
   | (go_at_call 91; (with_reducible refine (impl_ruleOk.calls k A0 c0 x A1 c1 y A2 c2 z (l0_0.length : Int) _ _ (Kd.C_below R0.out HB.out) L0.out (Kd.C_below R1.out HB.out) L1.out (Kd.C_below R2.out HB.out) L2.out HQ.out).mono ?_); rintro e w' ⟨rfl, HB1⟩))
  go_ret
  exact ⟨by first | rfl | simp, below_step HB.out HB1⟩
def impl_SystemValid.f (k : Nat) (l0_0 : List (S99)) (l0_1 : List (S109)) : Option Bool :=
 (impl_in.f (l0_0.length : Int) 1 5).bind fun t => if t = true then (if (l0_1.length : Int) > 8 then some false else (Copy.idxO (impl_SystemValid.p1 l0_0) l0_0.length 0).bind fun r1 => if 0 ≤ r1 then some false else (impl_size.f k l0_0).bind fun z => if z > 400 then some false else (Copy.idxO (impl_SystemValid.p2 k l0_0 l0_1) l0_1.length 0).bind fun r2 => some (!(decide (0 ≤ r2)))) else some false
theorem impl_SystemValid.mono : ∀ a0 a1 k, LeO (impl_SystemValid.f k a0 a1) (impl_SystemValid.f (k + 1) a0 a1) := by
 intro a0 a1 k
 unfold impl_SystemValid.f
 exact LeO.bind (LeO.refl _) (fun t => LeO.ite (LeO.ite (LeO.refl _) (LeO.bind (LeO.refl _) (fun r => LeO.ite (LeO.refl _) (LeO.bind (impl_size.mono _ k) (fun z => LeO.ite (LeO.refl _) (LeO.bind (Copy.idxO_le _ _ (fun i => LeO.bind (impl_ruleOk.mono _ _ _ _ k) (fun b => LeO.refl _)) _ _) (fun r => LeO.refl _))))))) (LeO.refl _))
set_option maxHeartbeats 4000000 in
theorem impl_SystemValid.calls (k : Nat) (A0_0 : Option Addr) (c0_0 : Nat) (l0_0 : List (S99)) (A0_1 : Option Addr) (c0_1 : Nat) (l0_1 : List (S109)) (r : Bool) (w : World) (hr0_0 : Kd.C k99 w A0_0 l0_0.length l0_0) (hc0_0 : l0_0.length ≤ c0_0) (hr0_1 : Kd.C k109 w A0_1 l0_1.length l0_1) (hc0_1 : l0_1.length ≤ c0_1) (h : impl_SystemValid.f k l0_0 l0_1 = some r) :
  Calls Try.prog 41 #[.agg #[.slice A0_0 l0_0.length c0_0, .slice A0_1 l0_1.length c0_1]] w fun e w' => e = .returned (.bool r) ∧ Below w.heap.size w w' := by
 have eg1 : ∀ args w, (callFunc 87 args).run Try.prog w = .ok (.enter 87 args) w := enters_of Try.func87 (by kernel_rfl) rfl
 have eg2 : ∀ args w, (callFunc 90 args).run Try.prog w = .ok (.enter 90 args) w := enters_of Try.func90 (by kernel_rfl) rfl
 have hu := Try.underlying58
 have EG1 := eg1
 have EG2 := eg2
 have HR0 := Aside0.mk hr0_0
 have HR1 := Aside0.mk hr0_1
 have HC0 := Aside0.mk hc0_0
 have HC1 := Aside0.mk hc0_1
 unfold impl_SystemValid.f at h
 obtain ⟨t, h1, h⟩ := Option.bind_eq_some_iff.mp h
 have HI := Aside0.mk h1
 clear h1 eg1 eg2 hr0_0 hr0_1 hc0_0 hc0_1
 cases t with
 | false =>
   rw [if_neg (by decide)] at h
   obtain rfl := Option.some.inj h
   clear h
   go_enter Try.func41, Try.ntmps41
   go_wp2_with (first
    | ((with_reducible refine gate_dst (N := 1) rfl ?_); refine box_event ?hg (N := 1) ?hd (cs := #[.slice A0_0 l0_0.length c0_0, .slice A0_1 l0_1.length c0_1]) (t := 58) ?hr ?_; (case hd => rfl); (case hg => rfl); (case hr => first | (go_simp; done) | (go_simp; rfl)); intro gb hg w3 hbox hb; have BK3 := Aside0.mk hbox; have HB3 := Aside0.mk hb; have hc3_0 : w3.cell? ⟨gb, 0, none⟩ = some (.slice A0_0 l0_0.length c0_0) := (blk_cell BK3.out 0).trans rfl; have hc3_1 : w3.cell? ⟨gb, 1, none⟩ = some (.slice A0_1 l0_1.length c0_1) := (blk_cell BK3.out 1).trans rfl; have hf3_0 := blk_frozen BK3.out 0; have hf3_1 := blk_frozen BK3.out 1; clear hg hbox hb)
    | (go_at_call 62; (with_reducible refine (impl_in.calls (l0_0.length : Int) 1 5 false _ HI.out).mono ?_); rintro e w' ⟨rfl, ⟨nd, rfl⟩⟩)
    | (go_at_call 86; refine (impl_Var_86.calls 87 _ EG1 A0_0 c0_0 l0_0 _ r1 _ (Kd.C_drewN (Kd.C_below HR0.out HB3.out) _) (impl_SystemValid_pred1 l0_0 _) HI1.out).mono ?_; rw [HD1.out]; rintro e w5 ⟨rfl, HB_⟩; have BK5 := Aside0.mk (blk_below (blk_drewN BK3.out _) HB_); have HB5 := Aside0.mk (below_step (pw_below_drewN HB3.out _) HB_); have hc5_0 : w5.cell? ⟨gb, 0, none⟩ = some (.slice A0_0 l0_0.length c0_0) := (blk_cell BK5.out 0).trans rfl; have hc5_1 : w5.cell? ⟨gb, 1, none⟩ = some (.slice A0_1 l0_1.length c0_1) := (blk_cell BK5.out 1).trans rfl; have hf5_0 := blk_frozen BK5.out 0; have hf5_1 := blk_frozen BK5.out 1; clear HB_)
    | (go_at_call 80; refine (impl_size.calls k A0_0 c0_0 l0_0 z _ (Kd.C_below HR0.out HB5.out) HC0.out HZ.out).mono ?_; rintro e w6 ⟨rfl, HB_⟩; have BK6 := Aside0.mk (blk_below BK5.out HB_); have HB6 := Aside0.mk (below_step HB5.out HB_); have hc6_0 : w6.cell? ⟨gb, 0, none⟩ = some (.slice A0_0 l0_0.length c0_0) := (blk_cell BK6.out 0).trans rfl; have hc6_1 : w6.cell? ⟨gb, 1, none⟩ = some (.slice A0_1 l0_1.length c0_1) := (blk_cell BK6.out 1).trans rfl; have hf6_0 := blk_frozen BK6.out 0; have hf6_1 := blk_frozen BK6.out 1; clear HB_)
    | (go_at_call 89; refine (impl_Rule_89.calls 90 _ EG2 A0_1 c0_1 l0_1 _ r2 _ (Kd.C_below HR1.out HB6.out) (impl_SystemValid_pred2 k l0_0 l0_1 A0_0 c0_0 _ gb _ BK6.out) HI2.out).mono ?_; rw [HD2.out]; rintro e w7 ⟨rfl, HB_⟩; have HB7 := Aside0.mk (below_step HB6.out HB_); clear HB_))
   go_ret
   exact ⟨rfl, pw_below_drewN HB3.out _⟩
 | true =>
  rw [if_pos rfl] at h
  by_cases c1 : (l0_1.length : Int) > 8
  ·rw [if_pos c1] at h
   obtain rfl := Option.some.inj h
   have c1b : decide ((8 : Int) < (l0_1.length : Int)) = true := decide_eq_true c1
   clear h c1
   go_enter Try.func41, Try.ntmps41
   go_wp2_with (first
    | ((with_reducible refine gate_dst (N := 1) rfl ?_); refine box_event ?hg (N := 1) ?hd (cs := #[.slice A0_0 l0_0.length c0_0, .slice A0_1 l0_1.length c0_1]) (t := 58) ?hr ?_; (case hd => rfl); (case hg => rfl); (case hr => first | (go_simp; done) | (go_simp; rfl)); intro gb hg w3 hbox hb; have BK3 := Aside0.mk hbox; have HB3 := Aside0.mk hb; have hc3_0 : w3.cell? ⟨gb, 0, none⟩ = some (.slice A0_0 l0_0.length c0_0) := (blk_cell BK3.out 0).trans rfl; have hc3_1 : w3.cell? ⟨gb, 1, none⟩ = some (.slice A0_1 l0_1.length c0_1) := (blk_cell BK3.out 1).trans rfl; have hf3_0 := blk_frozen BK3.out 0; have hf3_1 := blk_frozen BK3.out 1; clear hg hbox hb)
    | (go_at_call 62; (with_reducible refine (impl_in.calls (l0_0.length : Int) 1 5 true _ HI.out).mono ?_); rintro e w' ⟨rfl, ⟨nd, rfl⟩⟩)
    | (go_at_call 86; refine (impl_Var_86.calls 87 _ EG1 A0_0 c0_0 l0_0 _ r1 _ (Kd.C_drewN (Kd.C_below HR0.out HB3.out) _) (impl_SystemValid_pred1 l0_0 _) HI1.out).mono ?_; rw [HD1.out]; rintro e w5 ⟨rfl, HB_⟩; have BK5 := Aside0.mk (blk_below (blk_drewN BK3.out _) HB_); have HB5 := Aside0.mk (below_step (pw_below_drewN HB3.out _) HB_); have hc5_0 : w5.cell? ⟨gb, 0, none⟩ = some (.slice A0_0 l0_0.length c0_0) := (blk_cell BK5.out 0).trans rfl; have hc5_1 : w5.cell? ⟨gb, 1, none⟩ = some (.slice A0_1 l0_1.length c0_1) := (blk_cell BK5.out 1).trans rfl; have hf5_0 := blk_frozen BK5.out 0; have hf5_1 := blk_frozen BK5.out 1; clear HB_)
    | (go_at_call 80; refine (impl_size.calls k A0_0 c0_0 l0_0 z _ (Kd.C_below HR0.out HB5.out) HC0.out HZ.out).mono ?_; rintro e w6 ⟨rfl, HB_⟩; have BK6 := Aside0.mk (blk_below BK5.out HB_); have HB6 := Aside0.mk (below_step HB5.out HB_); have hc6_0 : w6.cell? ⟨gb, 0, none⟩ = some (.slice A0_0 l0_0.length c0_0) := (blk_cell BK6.out 0).trans rfl; have hc6_1 : w6.cell? ⟨gb, 1, none⟩ = some (.slice A0_1 l0_1.length c0_1) := (blk_cell BK6.out 1).trans rfl; have hf6_0 := blk_frozen BK6.out 0; have hf6_1 := blk_frozen BK6.out 1; clear HB_)
    | (go_at_call 89; refine (impl_Rule_89.calls 90 _ EG2 A0_1 c0_1 l0_1 _ r2 _ (Kd.C_below HR1.out HB6.out) (impl_SystemValid_pred2 k l0_0 l0_1 A0_0 c0_0 _ gb _ BK6.out) HI2.out).mono ?_; rw [HD2.out]; rintro e w7 ⟨rfl, HB_⟩; have HB7 := Aside0.mk (below_step HB6.out HB_); clear HB_))
   go_ret
   exact ⟨rfl, pw_below_drewN HB3.out _⟩
  rw [if_neg c1] at h
  have c1b : decide ((8 : Int) < (l0_1.length : Int)) = false := decide_eq_false c1
  clear c1
  obtain ⟨r1, hi1, h⟩ := Option.bind_eq_some_iff.mp h
  have HI1 := Aside0.mk hi1
  clear hi1
  by_cases c2 : 0 ≤ r1
  ·rw [if_pos c2] at h
   obtain rfl := Option.some.inj h
   have HD1 := Aside0.mk (decide_eq_true c2)
   clear h c2
   go_enter Try.func41, Try.ntmps41
   go_wp2_with (first
    | ((with_reducible refine gate_dst (N := 1) rfl ?_); refine box_event ?hg (N := 1) ?hd (cs := #[.slice A0_0 l0_0.length c0_0, .slice A0_1 l0_1.length c0_1]) (t := 58) ?hr ?_; (case hd => rfl); (case hg => rfl); (case hr => first | (go_simp; done) | (go_simp; rfl)); intro gb hg w3 hbox hb; have BK3 := Aside0.mk hbox; have HB3 := Aside0.mk hb; have hc3_0 : w3.cell? ⟨gb, 0, none⟩ = some (.slice A0_0 l0_0.length c0_0) := (blk_cell BK3.out 0).trans rfl; have hc3_1 : w3.cell? ⟨gb, 1, none⟩ = some (.slice A0_1 l0_1.length c0_1) := (blk_cell BK3.out 1).trans rfl; have hf3_0 := blk_frozen BK3.out 0; have hf3_1 := blk_frozen BK3.out 1; clear hg hbox hb)
    | (go_at_call 62; (with_reducible refine (impl_in.calls (l0_0.length : Int) 1 5 true _ HI.out).mono ?_); rintro e w' ⟨rfl, ⟨nd, rfl⟩⟩)
    | (go_at_call 86; refine (impl_Var_86.calls 87 _ EG1 A0_0 c0_0 l0_0 _ r1 _ (Kd.C_drewN (Kd.C_below HR0.out HB3.out) _) (impl_SystemValid_pred1 l0_0 _) HI1.out).mono ?_; rw [HD1.out]; rintro e w5 ⟨rfl, HB_⟩; have BK5 := Aside0.mk (blk_below (blk_drewN BK3.out _) HB_); have HB5 := Aside0.mk (below_step (pw_below_drewN HB3.out _) HB_); have hc5_0 : w5.cell? ⟨gb, 0, none⟩ = some (.slice A0_0 l0_0.length c0_0) := (blk_cell BK5.out 0).trans rfl; have hc5_1 : w5.cell? ⟨gb, 1, none⟩ = some (.slice A0_1 l0_1.length c0_1) := (blk_cell BK5.out 1).trans rfl; have hf5_0 := blk_frozen BK5.out 0; have hf5_1 := blk_frozen BK5.out 1; clear HB_)
    | (go_at_call 80; refine (impl_size.calls k A0_0 c0_0 l0_0 z _ (Kd.C_below HR0.out HB5.out) HC0.out HZ.out).mono ?_; rintro e w6 ⟨rfl, HB_⟩; have BK6 := Aside0.mk (blk_below BK5.out HB_); have HB6 := Aside0.mk (below_step HB5.out HB_); have hc6_0 : w6.cell? ⟨gb, 0, none⟩ = some (.slice A0_0 l0_0.length c0_0) := (blk_cell BK6.out 0).trans rfl; have hc6_1 : w6.cell? ⟨gb, 1, none⟩ = some (.slice A0_1 l0_1.length c0_1) := (blk_cell BK6.out 1).trans rfl; have hf6_0 := blk_frozen BK6.out 0; have hf6_1 := blk_frozen BK6.out 1; clear HB_)
    | (go_at_call 89; refine (impl_Rule_89.calls 90 _ EG2 A0_1 c0_1 l0_1 _ r2 _ (Kd.C_below HR1.out HB6.out) (impl_SystemValid_pred2 k l0_0 l0_1 A0_0 c0_0 _ gb _ BK6.out) HI2.out).mono ?_; rw [HD2.out]; rintro e w7 ⟨rfl, HB_⟩; have HB7 := Aside0.mk (below_step HB6.out HB_); clear HB_))
   go_ret
   exact ⟨rfl, HB5.out⟩
  rw [if_neg c2] at h
  have HD1 := Aside0.mk (decide_eq_false c2)
  clear c2
  obtain ⟨z, hz, h⟩ := Option.bind_eq_some_iff.mp h
  have HZ := Aside0.mk hz
  clear hz
  by_cases c3 : z > 400
  ·rw [if_pos c3] at h
   obtain rfl := Option.some.inj h
   have c3b : decide ((400 : Int) < z) = true := decide_eq_true c3
   clear h c3
   go_enter Try.func41, Try.ntmps41
   go_wp2_with (first
    | ((with_reducible refine gate_dst (N := 1) rfl ?_); refine box_event ?hg (N := 1) ?hd (cs := #[.slice A0_0 l0_0.length c0_0, .slice A0_1 l0_1.length c0_1]) (t := 58) ?hr ?_; (case hd => rfl); (case hg => rfl); (case hr => first | (go_simp; done) | (go_simp; rfl)); intro gb hg w3 hbox hb; have BK3 := Aside0.mk hbox; have HB3 := Aside0.mk hb; have hc3_0 : w3.cell? ⟨gb, 0, none⟩ = some (.slice A0_0 l0_0.length c0_0) := (blk_cell BK3.out 0).trans rfl; have hc3_1 : w3.cell? ⟨gb, 1, none⟩ = some (.slice A0_1 l0_1.length c0_1) := (blk_cell BK3.out 1).trans rfl; have hf3_0 := blk_frozen BK3.out 0; have hf3_1 := blk_frozen BK3.out 1; clear hg hbox hb)
    | (go_at_call 62; (with_reducible refine (impl_in.calls (l0_0.length : Int) 1 5 true _ HI.out).mono ?_); rintro e w' ⟨rfl, ⟨nd, rfl⟩⟩)
    | (go_at_call 86; refine (impl_Var_86.calls 87 _ EG1 A0_0 c0_0 l0_0 _ r1 _ (Kd.C_drewN (Kd.C_below HR0.out HB3.out) _) (impl_SystemValid_pred1 l0_0 _) HI1.out).mono ?_; rw [HD1.out]; rintro e w5 ⟨rfl, HB_⟩; have BK5 := Aside0.mk (blk_below (blk_drewN BK3.out _) HB_); have HB5 := Aside0.mk (below_step (pw_below_drewN HB3.out _) HB_); have hc5_0 : w5.cell? ⟨gb, 0, none⟩ = some (.slice A0_0 l0_0.length c0_0) := (blk_cell BK5.out 0).trans rfl; have hc5_1 : w5.cell? ⟨gb, 1, none⟩ = some (.slice A0_1 l0_1.length c0_1) := (blk_cell BK5.out 1).trans rfl; have hf5_0 := blk_frozen BK5.out 0; have hf5_1 := blk_frozen BK5.out 1; clear HB_)
    | (go_at_call 80; refine (impl_size.calls k A0_0 c0_0 l0_0 z _ (Kd.C_below HR0.out HB5.out) HC0.out HZ.out).mono ?_; rintro e w6 ⟨rfl, HB_⟩; have BK6 := Aside0.mk (blk_below BK5.out HB_); have HB6 := Aside0.mk (below_step HB5.out HB_); have hc6_0 : w6.cell? ⟨gb, 0, none⟩ = some (.slice A0_0 l0_0.length c0_0) := (blk_cell BK6.out 0).trans rfl; have hc6_1 : w6.cell? ⟨gb, 1, none⟩ = some (.slice A0_1 l0_1.length c0_1) := (blk_cell BK6.out 1).trans rfl; have hf6_0 := blk_frozen BK6.out 0; have hf6_1 := blk_frozen BK6.out 1; clear HB_)
    | (go_at_call 89; refine (impl_Rule_89.calls 90 _ EG2 A0_1 c0_1 l0_1 _ r2 _ (Kd.C_below HR1.out HB6.out) (impl_SystemValid_pred2 k l0_0 l0_1 A0_0 c0_0 _ gb _ BK6.out) HI2.out).mono ?_; rw [HD2.out]; rintro e w7 ⟨rfl, HB_⟩; have HB7 := Aside0.mk (below_step HB6.out HB_); clear HB_))
   go_ret
   exact ⟨rfl, HB6.out⟩
  rw [if_neg c3] at h
  have c3b : decide ((400 : Int) < z) = false := decide_eq_false c3
  clear c3
  obtain ⟨r2, hi2, h⟩ := Option.bind_eq_some_iff.mp h
  have HI2 := Aside0.mk hi2
  clear hi2
  obtain rfl := Option.some.inj h
  clear h
  generalize hb : decide (0 ≤ r2) = b
  have HD2 := Aside0.mk hb
  clear hb
  cases b
  all_goals
   go_enter Try.func41, Try.ntmps41
   go_wp2_with (first
    | ((with_reducible refine gate_dst (N := 1) rfl ?_); refine box_event ?hg (N := 1) ?hd (cs := #[.slice A0_0 l0_0.length c0_0, .slice A0_1 l0_1.length c0_1]) (t := 58) ?hr ?_; (case hd => rfl); (case hg => rfl); (case hr => first | (go_simp; done) | (go_simp; rfl)); intro gb hg w3 hbox hb; have BK3 := Aside0.mk hbox; have HB3 := Aside0.mk hb; have hc3_0 : w3.cell? ⟨gb, 0, none⟩ = some (.slice A0_0 l0_0.length c0_0) := (blk_cell BK3.out 0).trans rfl; have hc3_1 : w3.cell? ⟨gb, 1, none⟩ = some (.slice A0_1 l0_1.length c0_1) := (blk_cell BK3.out 1).trans rfl; have hf3_0 := blk_frozen BK3.out 0; have hf3_1 := blk_frozen BK3.out 1; clear hg hbox hb)
    | (go_at_call 62; (with_reducible refine (impl_in.calls (l0_0.length : Int) 1 5 true _ HI.out).mono ?_); rintro e w' ⟨rfl, ⟨nd, rfl⟩⟩)
    | (go_at_call 86; refine (impl_Var_86.calls 87 _ EG1 A0_0 c0_0 l0_0 _ r1 _ (Kd.C_drewN (Kd.C_below HR0.out HB3.out) _) (impl_SystemValid_pred1 l0_0 _) HI1.out).mono ?_; rw [HD1.out]; rintro e w5 ⟨rfl, HB_⟩; have BK5 := Aside0.mk (blk_below (blk_drewN BK3.out _) HB_); have HB5 := Aside0.mk (below_step (pw_below_drewN HB3.out _) HB_); have hc5_0 : w5.cell? ⟨gb, 0, none⟩ = some (.slice A0_0 l0_0.length c0_0) := (blk_cell BK5.out 0).trans rfl; have hc5_1 : w5.cell? ⟨gb, 1, none⟩ = some (.slice A0_1 l0_1.length c0_1) := (blk_cell BK5.out 1).trans rfl; have hf5_0 := blk_frozen BK5.out 0; have hf5_1 := blk_frozen BK5.out 1; clear HB_)
    | (go_at_call 80; refine (impl_size.calls k A0_0 c0_0 l0_0 z _ (Kd.C_below HR0.out HB5.out) HC0.out HZ.out).mono ?_; rintro e w6 ⟨rfl, HB_⟩; have BK6 := Aside0.mk (blk_below BK5.out HB_); have HB6 := Aside0.mk (below_step HB5.out HB_); have hc6_0 : w6.cell? ⟨gb, 0, none⟩ = some (.slice A0_0 l0_0.length c0_0) := (blk_cell BK6.out 0).trans rfl; have hc6_1 : w6.cell? ⟨gb, 1, none⟩ = some (.slice A0_1 l0_1.length c0_1) := (blk_cell BK6.out 1).trans rfl; have hf6_0 := blk_frozen BK6.out 0; have hf6_1 := blk_frozen BK6.out 1; clear HB_)
    | (go_at_call 89; refine (impl_Rule_89.calls 90 _ EG2 A0_1 c0_1 l0_1 _ r2 _ (Kd.C_below HR1.out HB6.out) (impl_SystemValid_pred2 k l0_0 l0_1 A0_0 c0_0 _ gb _ BK6.out) HI2.out).mono ?_; rw [HD2.out]; rintro e w7 ⟨rfl, HB_⟩; have HB7 := Aside0.mk (below_step HB6.out HB_); clear HB_))
   go_ret
   exact ⟨rfl, HB7.out⟩

/-! ### impl_setOk: function 123 -/
def impl_setOk.l0 : Nat → List Int → Int → List Int → Int → Int → Option (Bool)
 | 0, _, _, _, _, _ => none
 | k + 1, x0, x1, x7, x8, x9 => if x9 < x8 then (if 0 ≤ x9 then (if x9 < (x7.length : Int) then ((impl_in.f (rd x7 x9) 0 (wrap64 (x1 - 1))).bind fun t306 => (if t306 = true then (if x9 > 0 then (if 0 ≤ (wrap64 (x9 - 1)) then (if (wrap64 (x9 - 1)) < (x0.length : Int) then (if (rd x0 (wrap64 (x9 - 1))) ≥ (rd x7 x9) then (some false) else (impl_setOk.l0 k x0 x1 x7 x8 (wrap64 (x9 + 1)))) else (none)) else (none)) else (impl_setOk.l0 k x0 x1 x7 x8 (wrap64 (x9 + 1)))) else (some false))) else (none)) else (none)) else (some true)
def impl_setOk.f (k : Nat) (l0 : List Int) (a1 : Int) : Option (Bool) := impl_setOk.l0 k l0 a1 l0 (l0.length : Int) 0
theorem impl_setOk.mono_l : ∀ k, (∀ y0 y1 y2 y3 y4, LeO (impl_setOk.l0 k y0 y1 y2 y3 y4) (impl_setOk.l0 (k + 1) y0 y1 y2 y3 y4))
 | 0 => fun _ _ _ _ _ r h => by simp [impl_setOk.l0] at h
 | k + 1 => by
  have ih0 := impl_setOk.mono_l k
  ·intro y0 y1 y2 y3 y4
   unfold impl_setOk.l0
   repeat' first
   | (with_reducible exact ih0 _ _ _ _ _)
   | (with_reducible exact LeO.refl _)
   | (with_reducible exact LeO.none _)
   | (with_reducible refine LeO.ite ?_ ?_)
   | (with_reducible refine LeO.bind ?_ (fun _ => ?_))
   | exact ih0 _ _ _ _ _
   | exact LeO.none _
   | refine LeO.ite ?_ ?_
   | refine LeO.bind ?_ (fun _ => ?_)
theorem impl_setOk.mono : ∀ a0 a1 k, LeO (impl_setOk.f k a0 a1) (impl_setOk.f (k + 1) a0 a1) := by
 intro a0 a1 k
 have ih0 := impl_setOk.mono_l k
 unfold impl_setOk.f
 repeat' first
   | (with_reducible exact ih0 _ _ _ _ _)
   | (with_reducible exact LeO.refl _)
   | (with_reducible exact LeO.none _)
   | (with_reducible refine LeO.ite ?_ ?_)
   | (with_reducible refine LeO.bind ?_ (fun _ => ?_))
   | exact ih0 _ _ _ _ _
   | exact LeO.none _
   | refine LeO.ite ?_ ?_
   | refine LeO.bind ?_ (fun _ => ?_)
set_option maxHeartbeats 8000000 in
set_option maxRecDepth 100000 in
theorem impl_setOk.calls (k : Nat) (A0 : Option Addr) (c0 : Nat) (l0 : List Int) (a1 : Int) (r : Bool) (w : World) (hr0 : Kd.C (Kd.int .i64) w A0 l0.length l0) (hc0 : l0.length ≤ c0) (h : impl_setOk.f k l0 a1 = some r) :
  Calls Try.prog 123 #[.slice A0 l0.length c0, .int .i64 a1] w fun e w' => e = .returned (.bool r) ∧ Drawn0 w w' := by
 have HR0 := Aside0.mk hr0
 have HC0 := Aside0.mk hc0
 clear hr0 hc0
 have H : (impl_setOk.l0 k l0 a1 l0 (l0.length : Int) 0) = some r := h
 clear h
 have H' := Aside0.mk H
 clear H
 go_enter Try.func123, Try.ntmps123
 go_wp2
 go_loopg [9] k (fun kq v9 w' => ∃ (x9_1 : Int), v9 = .int .i64 x9_1 ∧ Aside0 (impl_setOk.l0 kq l0 a1 l0 (l0.length : Int) x9_1 = some r) ∧ Aside0 (kq ≤ k) ∧ Drawn0 w w')
 case atStart => exact ⟨(0), rsd, H', ⟨Nat.le_refl _⟩, by repeat (first | exact Drawn0.refl _ | apply Drawn0.step)⟩
 case round =>
  clear H'
  try clear c1
  try clear p2
  obtain ⟨x9_1, rfl, HA, HK1, ⟨m1, rfl⟩⟩ := hrel
  cases gk with
  | zero => exact absurd HA.out (by simp [impl_setOk.l0])
  | succ k1 =>
   have H := HA.out
   clear HA
   simp only [impl_setOk.l0] at H
   by_cases c3 : x9_1 < (l0.length : Int)
   ·rw [if_pos c3] at H
    have c3b0 : decide (x9_1 < (l0.length : Int)) = true := decide_eq_true c3
    clear c3
    by_cases c4 : 0 ≤ x9_1
    ·rw [if_pos c4] at H
     have c4b0 : decide (0 ≤ x9_1) = true := decide_eq_true c4
     clear c4
     by_cases c5 : x9_1 < (l0.length : Int)
     ·rw [if_pos c5] at H
      have c5b0 : decide (x9_1 < (l0.length : Int)) = true := decide_eq_true c5
      clear c5
      replace H := Option.bind_eq_some_iff.mp H
      obtain ⟨t306, A60, H⟩ := H
      replace H : (if t306 = true then (if x9_1 > 0 then (if 0 ≤ (wrap64 (x9_1 - 1)) then (if (wrap64 (x9_1 - 1)) < (l0.length : Int) then (if (rd l0 (wrap64 (x9_1 - 1))) ≥ (rd l0 x9_1) then (some false) else (impl_setOk.l0 k1 l0 a1 l0 (l0.length : Int) (wrap64 (x9_1 + 1)))) else (none)) else (none)) else (impl_setOk.l0 k1 l0 a1 l0 (l0.length : Int) (wrap64 (x9_1 + 1)))) else (some false)) = some r := H
      have A6 := Aside0.mk A60
      clear A60
      by_cases c7 : t306 = true
      ·subst c7
       have H1 : (if x9_1 > 0 then (if 0 ≤ (wrap64 (x9_1 - 1)) then (if (wrap64 (x9_1 - 1)) < (l0.length : Int) then (if (rd l0 (wrap64 (x9_1 - 1))) ≥ (rd l0 x9_1) then (some false) else (impl_setOk.l0 k1 l0 a1 l0 (l0.length : Int) (wrap64 (x9_1 + 1)))) else (none)) else (none)) else (impl_setOk.l0 k1 l0 a1 l0 (l0.length : Int) (wrap64 (x9_1 + 1)))) = some r := by rw [if_pos rfl] at H; exact H
       clear H
       have H := H1
       clear H1
       by_cases c8 : x9_1 > 0
       ·rw [if_pos c8] at H
        have c8b0 : decide (0 < x9_1) = true := decide_eq_true c8
        clear c8
        obtain ⟨ji9, hji9⟩ : ∃ j_ : Int, (wrap64 (x9_1 - 1)) = j_ := ⟨_, rfl⟩
        replace H : (if 0 ≤ (ji9) then (if (ji9) < (l0.length : Int) then (if (rd l0 (ji9)) ≥ (rd l0 x9_1) then (some false) else (impl_setOk.l0 k1 l0 a1 l0 (l0.length : Int) (wrap64 (x9_1 + 1)))) else (none)) else (none)) = some r := by first | (rw [hji9] at H; exact H) | (simp only [hji9] at H ⊢; exact H)
        (try rw [hji9] at A6)
        have hji9w : (IntKind.i64.wrap (x9_1 - 1)) = ji9 := (i64_w _).trans hji9
        by_cases c10 : 0 ≤ (ji9)
        ·rw [if_pos c10] at H
         have c10b0 : decide (0 ≤ (ji9)) = true := decide_eq_true c10
         clear c10
         by_cases c11 : (ji9) < (l0.length : Int)
         ·rw [if_pos c11] at H
          have c11b0 : decide ((ji9) < (l0.length : Int)) = true := decide_eq_true c11
          clear c11
          by_cases c12 : (rd l0 (ji9)) ≥ (rd l0 x9_1)
          ·rw [if_pos c12] at H
           have c12b0 : decide ((rd l0 x9_1) ≤ (rd l0 (ji9))) = true := decide_eq_true c12
           clear c12
           obtain rfl := Option.some.inj H
           have p305 : 0 ≤ (x9_1 : Int) := oda
           have q305 : x9_1 < (l0.length : Int) := oda
           obtain ⟨ad305, e305, hx305_0⟩ := Kd.at_int HR0.out x9_1 p305 q305
           cases e305
           replace p305 := eq_true p305
           replace q305 := eq_true q305
           go_wp2_with (first | ((with_reducible refine gate_callee (f := 62) rfl ?_); refine goesL_ (some 17) rfl rfl Try.func62 (by kernel_rfl) rfl #[.int .i64 (rd l0 x9_1), .int .i64 0, .int .i64 (wrap64 (a1 - 1))] rfl lmB ?_; (with_reducible refine (impl_in.calls (rd l0 x9_1) 0 (wrap64 (a1 - 1)) true _ A6.out).mono ?_); rintro e w' ⟨rfl, ⟨nd, rfl⟩⟩; refine ⟨_, rfl, ?_⟩; have p307 : 0 ≤ ((ji9) : Int) := oda; have q307 : (ji9) < (l0.length : Int) := oda; obtain ⟨ad307, e307, hx307_0⟩ := Kd.at_int HR0.out (ji9) p307 q307; obtain rfl : ad305 = ad307 := (by injection e307); replace p307 := eq_true p307; replace q307 := eq_true q307))
           go_ret
           exact ⟨by first | rfl | (simp; done) | (simp only [← hji9] <;> (first | rfl | simp)) | (simp [*]; done), by repeat (first | exact Drawn0.refl _ | apply Drawn0.step)⟩
          ·rw [if_neg c12] at H
           have c12b0 : decide ((rd l0 x9_1) ≤ (rd l0 (ji9))) = false := decide_eq_false c12
           clear c12
           have H' := Aside0.mk H
           clear H
           have p305 : 0 ≤ (x9_1 : Int) := oda
           have q305 : x9_1 < (l0.length : Int) := oda
           obtain ⟨ad305, e305, hx305_0⟩ := Kd.at_int HR0.out x9_1 p305 q305
           cases e305
           replace p305 := eq_true p305
           replace q305 := eq_true q305
           go_wp2_with (first | ((with_reducible refine gate_callee (f := 62) rfl ?_); refine goesL_ (some 17) rfl rfl Try.func62 (by kernel_rfl) rfl #[.int .i64 (rd l0 x9_1), .int .i64 0, .int .i64 (wrap64 (a1 - 1))] rfl lmB ?_; (with_reducible refine (impl_in.calls (rd l0 x9_1) 0 (wrap64 (a1 - 1)) true _ A6.out).mono ?_); rintro e w' ⟨rfl, ⟨nd, rfl⟩⟩; refine ⟨_, rfl, ?_⟩; have p307 : 0 ≤ ((ji9) : Int) := oda; have q307 : (ji9) < (l0.length : Int) := oda; obtain ⟨ad307, e307, hx307_0⟩ := Kd.at_int HR0.out (ji9) p307 q307; obtain rfl : ad305 = ad307 := (by injection e307); replace p307 := eq_true p307; replace q307 := eq_true q307))
           go_roundg k1
           case measure => have := HK1.out; omega
           case rel => exact ⟨(wrap64 (x9_1 + 1)), rsd, H', ⟨by have := HK1.out; omega⟩, by repeat (first | exact Drawn0.refl _ | apply Drawn0.step)⟩
         ·rw [if_neg c11] at H
          exact absurd H (by simp)
        ·rw [if_neg c10] at H
         exact absurd H (by simp)
       ·rw [if_neg c8] at H
        have c8b0 : decide (0 < x9_1) = false := decide_eq_false c8
        clear c8
        have H' := Aside0.mk H
        clear H
        have p305 : 0 ≤ (x9_1 : Int) := oda
        have q305 : x9_1 < (l0.length : Int) := oda
        obtain ⟨ad305, e305, hx305_0⟩ := Kd.at_int HR0.out x9_1 p305 q305
        cases e305
        replace p305 := eq_true p305
        replace q305 := eq_true q305
        go_wp2_with (first | ((with_reducible refine gate_callee (f := 62) rfl ?_); refine goesL_ (some 17) rfl rfl Try.func62 (by kernel_rfl) rfl #[.int .i64 (rd l0 x9_1), .int .i64 0, .int .i64 (wrap64 (a1 - 1))] rfl lmB ?_; (with_reducible refine (impl_in.calls (rd l0 x9_1) 0 (wrap64 (a1 - 1)) true _ A6.out).mono ?_); rintro e w' ⟨rfl, ⟨nd, rfl⟩⟩; refine ⟨_, rfl, ?_⟩))
        go_roundg k1
        case measure => have := HK1.out; omega
        case rel => exact ⟨(wrap64 (x9_1 + 1)), rsd, H', ⟨by have := HK1.out; omega⟩, by repeat (first | exact Drawn0.refl _ | apply Drawn0.step)⟩
      ·replace c7 := Bool.eq_false_iff.mpr c7
       subst c7
       have H1 : (some false) = some r := by rw [if_neg (show ¬ (false = true) by decide)] at H; exact H
       clear H
       have H := H1
       clear H1
       obtain rfl := Option.some.inj H
       have p305 : 0 ≤ (x9_1 : Int) := oda
       have q305 : x9_1 < (l0.length : Int) := oda
       obtain ⟨ad305, e305, hx305_0⟩ := Kd.at_int HR0.out x9_1 p305 q305
       cases e305
       replace p305 := eq_true p305
       replace q305 := eq_true q305
       go_wp2_with (first | ((with_reducible refine gate_callee (f := 62) rfl ?_); refine goesL_ (some 17) rfl rfl Try.func62 (by kernel_rfl) rfl #[.int .i64 (rd l0 x9_1), .int .i64 0, .int .i64 (wrap64 (a1 - 1))] rfl lmB ?_; (with_reducible refine (impl_in.calls (rd l0 x9_1) 0 (wrap64 (a1 - 1)) false _ A6.out).mono ?_); rintro e w' ⟨rfl, ⟨nd, rfl⟩⟩; refine ⟨_, rfl, ?_⟩))
       go_ret
       exact ⟨by first | rfl | (simp; done) | (simp [*]; done), by repeat (first | exact Drawn0.refl _ | apply Drawn0.step)⟩
     ·rw [if_neg c5] at H
      exact absurd H (by simp)
    ·rw [if_neg c4] at H
     exact absurd H (by simp)
   ·rw [if_neg c3] at H
    have c3b0 : decide (x9_1 < (l0.length : Int)) = false := decide_eq_false c3
    clear c3
    obtain rfl := Option.some.inj H
    go_wp2
    go_ret
    exact ⟨by first | rfl | (simp; done) | (simp [*]; done), by repeat (first | exact Drawn0.refl _ | apply Drawn0.step)⟩

/-! ### impl_rulesOk: function 83 -/
def impl_rulesOk.f (k : Nat) (l0_0 : List (S99)) (l0_1 : List (S109)) (l1 : List Int) : Option (Bool) := (impl_setOk.f k l1 (l0_1.length : Int)).bind fun t309 => (some t309)
theorem impl_rulesOk.mono : ∀ a0 a1 a2 k, LeO (impl_rulesOk.f k a0 a1 a2) (impl_rulesOk.f (k + 1) a0 a1 a2) := by
 intro a0 a1 a2 k
 unfold impl_rulesOk.f
 repeat' first
   | (with_reducible exact impl_setOk.mono _ _ _)
   | (with_reducible exact LeO.refl _)
   | (with_reducible exact LeO.none _)
   | (with_reducible refine LeO.ite ?_ ?_)
   | (with_reducible refine LeO.bind ?_ (fun _ => ?_))
   | exact impl_setOk.mono _ _ _
   | exact LeO.none _
   | refine LeO.ite ?_ ?_
   | refine LeO.bind ?_ (fun _ => ?_)
set_option maxHeartbeats 8000000 in
set_option maxRecDepth 100000 in
theorem impl_rulesOk.calls (k : Nat) (A0_0 : Option Addr) (c0_0 : Nat) (l0_0 : List (S99)) (A0_1 : Option Addr) (c0_1 : Nat) (l0_1 : List (S109)) (A1 : Option Addr) (c1 : Nat) (l1 : List Int) (r : Bool) (w : World) (hr0_0 : Kd.C k99 w A0_0 l0_0.length l0_0) (hc0_0 : l0_0.length ≤ c0_0) (hr0_1 : Kd.C k109 w A0_1 l0_1.length l0_1) (hc0_1 : l0_1.length ≤ c0_1) (hr1 : Kd.C (Kd.int .i64) w A1 l1.length l1) (hc1 : l1.length ≤ c1) (h : impl_rulesOk.f k l0_0 l0_1 l1 = some r) :
  Calls Try.prog 83 #[.agg #[.slice A0_0 l0_0.length c0_0, .slice A0_1 l0_1.length c0_1], .slice A1 l1.length c1] w fun e w' => e = .returned (.bool r) ∧ Below w.heap.size w w' := by
 have hu58 := Try.underlying58
 have HR0_0 := Aside0.mk hr0_0
 have HC0_0 := Aside0.mk hc0_0
 clear hr0_0 hc0_0
 have HR0_1 := Aside0.mk hr0_1
 have HC0_1 := Aside0.mk hc0_1
 clear hr0_1 hc0_1
 have HR1 := Aside0.mk hr1
 have HC1 := Aside0.mk hc1
 clear hr1 hc1
 have HB := Aside0.mk (Below.refl w.heap.size w)
 have H : ((impl_setOk.f k l1 (l0_1.length : Int)).bind fun t309 => (some t309)) = some r := h
 clear h
 replace H := Option.bind_eq_some_iff.mp H
 obtain ⟨t309, A30, H⟩ := H
 replace H : (some t309) = some r := H
 have A3 := Aside0.mk A30
 clear A30
 obtain rfl := Option.some.inj H
 go_enter Try.func83, Try.ntmps83
 go_wp2_with (first | ((with_reducible refine gate_dst (N := 2) rfl ?_); refine box_event ?hg (N := 2) ?hd (cs := #[.slice A0_0 l0_0.length c0_0, .slice A0_1 l0_1.length c0_1]) (t := 58) ?hr ?_; (case hd => rfl); (case hg => rfl); (case hr => first | (go_simp; done) | (go_simp; rfl)); intro gb308 hg w4 hbox hb; have n0_ := Aside0.mk (below_step (by repeat (first | (with_reducible first | exact HB.out | apply bwA | apply bwN | apply bwD) | exact HB.out)) hb); have n1_ := Aside0.mk (hbox); have n2_ := Aside0.mk ((by rw [hg]; exact (below_size (by repeat (first | (with_reducible first | exact HB.out | apply bwA | apply bwN | apply bwD) | exact HB.out))) : w.heap.size ≤ gb308)); have n3_ := Aside0.mk ((by rw [hg]; exact (below_size (by repeat (first | (with_reducible first | exact HB.out | apply bwA | apply bwN | apply bwD) | exact HB.out))) : w.heap.size ≤ gb308)); clear HB; have HB := n0_; have BK308 := n1_; have GW308 := n2_; have GE308 := n3_; clear n0_ n1_ n2_ n3_; clear hb hbox hg; have hcz5_0 : w4.cell? ⟨gb308, 0, none⟩ = some (.slice A0_0 l0_0.length c0_0) := (blk_cell BK308.out 0).trans rfl; have hcz5_1 : w4.cell? ⟨gb308, 1, none⟩ = some (.slice A0_1 l0_1.length c0_1) := (blk_cell BK308.out 1).trans rfl; have hfz5_0 := blk_frozen BK308.out 0; have hfz5_1 := blk_frozen BK308.out 1) | ((with_reducible refine gate_callee (f := 123) rfl ?_); refine goesL_ (some 9) rfl rfl Try.func123 (by kernel_rfl) rfl #[.slice A1 l1.length c1, .int .i64 (l0_1.length : Int)] rfl lmB ?_; (with_reducible refine (impl_setOk.calls k _ _ l1 (l0_1.length : Int) t309 _ ?side1 ?side2 A3.out).mono ?_); (case side1 => repeat (first | exact (Kd.C_below HR1.out HB.out) | (with_reducible refine Kd.C_alloc ?_ _) | (with_reducible refine Kd.C_drewN ?_ _) | (with_reducible refine Kd.C_drew ?_))); (case side2 => exact HC1.out); rintro e w' ⟨rfl, ⟨nd, rfl⟩⟩; refine ⟨_, rfl, ?_⟩))
 go_ret
 exact ⟨ers, by repeat (first | (with_reducible first | exact HB.out | apply bwA | apply bwN | apply bwD | refine below_set ?_ GE308.out) | exact HB.out)⟩

/-! ### impl_RulesSet: function 39 -/
def impl_RulesSet.f (k : Nat) (l0_0 : List (S99)) (l0_1 : List (S109)) (l1 : List Int) : Option (Bool) := (impl_SystemValid.f k l0_0 l0_1).bind fun t311 => (if t311 = true then ((impl_rulesOk.f k l0_0 l0_1 l1).bind fun t312 => (some t312)) else (some false))
theorem impl_RulesSet.mono : ∀ a0 a1 a2 k, LeO (impl_RulesSet.f k a0 a1 a2) (impl_RulesSet.f (k + 1) a0 a1 a2) := by
 intro a0 a1 a2 k
 unfold impl_RulesSet.f
 repeat' first
   | (with_reducible exact impl_SystemValid.mono _ _ _)
   | (with_reducible exact impl_rulesOk.mono _ _ _ _)
   | (with_reducible exact LeO.refl _)
   | (with_reducible exact LeO.none _)
   | (with_reducible refine LeO.ite ?_ ?_)
   | (with_reducible refine LeO.bind ?_ (fun _ => ?_))
   | exact impl_SystemValid.mono _ _ _
   | exact impl_rulesOk.mono _ _ _ _
   | exact LeO.none _
   | refine LeO.ite ?_ ?_
   | refine LeO.bind ?_ (fun _ => ?_)
set_option maxHeartbeats 8000000 in
set_option maxRecDepth 100000 in
theorem impl_RulesSet.calls (k : Nat) (A0_0 : Option Addr) (c0_0 : Nat) (l0_0 : List (S99)) (A0_1 : Option Addr) (c0_1 : Nat) (l0_1 : List (S109)) (A1 : Option Addr) (c1 : Nat) (l1 : List Int) (r : Bool) (w : World) (hr0_0 : Kd.C k99 w A0_0 l0_0.length l0_0) (hc0_0 : l0_0.length ≤ c0_0) (hr0_1 : Kd.C k109 w A0_1 l0_1.length l0_1) (hc0_1 : l0_1.length ≤ c0_1) (hr1 : Kd.C (Kd.int .i64) w A1 l1.length l1) (hc1 : l1.length ≤ c1) (h : impl_RulesSet.f k l0_0 l0_1 l1 = some r) :
  Calls Try.prog 39 #[.agg #[.slice A0_0 l0_0.length c0_0, .slice A0_1 l0_1.length c0_1], .slice A1 l1.length c1] w fun e w' => e = .returned (.bool r) ∧ Below w.heap.size w w' := by
 have hu58 := Try.underlying58
 have HR0_0 := Aside0.mk hr0_0
 have HC0_0 := Aside0.mk hc0_0
 clear hr0_0 hc0_0
 have HR0_1 := Aside0.mk hr0_1
 have HC0_1 := Aside0.mk hc0_1
 clear hr0_1 hc0_1
 have HR1 := Aside0.mk hr1
 have HC1 := Aside0.mk hc1
 clear hr1 hc1
 have HB := Aside0.mk (Below.refl w.heap.size w)
 have H : ((impl_SystemValid.f k l0_0 l0_1).bind fun t311 => (if t311 = true then ((impl_rulesOk.f k l0_0 l0_1 l1).bind fun t312 => (some t312)) else (some false))) = some r := h
 clear h
 replace H := Option.bind_eq_some_iff.mp H
 obtain ⟨t311, A30, H⟩ := H
 replace H : (if t311 = true then ((impl_rulesOk.f k l0_0 l0_1 l1).bind fun t312 => (some t312)) else (some false)) = some r := H
 have A3 := Aside0.mk A30
 clear A30
 by_cases c4 : t311 = true
 ·subst c4
  have H1 : ((impl_rulesOk.f k l0_0 l0_1 l1).bind fun t312 => (some t312)) = some r := by rw [if_pos rfl] at H; exact H
  clear H
  have H := H1
  clear H1
  replace H := Option.bind_eq_some_iff.mp H
  obtain ⟨t312, A50, H⟩ := H
  replace H : (some t312) = some r := H
  have A5 := Aside0.mk A50
  clear A50
  obtain rfl := Option.some.inj H
  go_enter Try.func39, Try.ntmps39
  go_wp2_with (first | ((with_reducible refine gate_dst (N := 2) rfl ?_); refine box_event ?hg (N := 2) ?hd (cs := #[.slice A0_0 l0_0.length c0_0, .slice A0_1 l0_1.length c0_1]) (t := 58) ?hr ?_; (case hd => rfl); (case hg => rfl); (case hr => first | (go_simp; done) | (go_simp; rfl)); intro gb310 hg w6 hbox hb; have n0_ := Aside0.mk (below_step (by repeat (first | (with_reducible first | exact HB.out | apply bwA | apply bwN | apply bwD) | exact HB.out)) hb); have n1_ := Aside0.mk (hbox); have n2_ := Aside0.mk ((by rw [hg]; exact (below_size (by repeat (first | (with_reducible first | exact HB.out | apply bwA | apply bwN | apply bwD) | exact HB.out))) : w.heap.size ≤ gb310)); have n3_ := Aside0.mk ((by rw [hg]; exact (below_size (by repeat (first | (with_reducible first | exact HB.out | apply bwA | apply bwN | apply bwD) | exact HB.out))) : w.heap.size ≤ gb310)); clear HB; have HB := n0_; have BK310 := n1_; have GW310 := n2_; have GE310 := n3_; clear n0_ n1_ n2_ n3_; clear hb hbox hg; have hcz7_0 : w6.cell? ⟨gb310, 0, none⟩ = some (.slice A0_0 l0_0.length c0_0) := (blk_cell BK310.out 0).trans rfl; have hcz7_1 : w6.cell? ⟨gb310, 1, none⟩ = some (.slice A0_1 l0_1.length c0_1) := (blk_cell BK310.out 1).trans rfl; have hfz7_0 := blk_frozen BK310.out 0; have hfz7_1 := blk_frozen BK310.out 1) | ((with_reducible refine gate_callee (f := 41) rfl ?_); refine goesL_ (some 6) rfl rfl Try.func41 (by kernel_rfl) rfl #[.agg #[.slice A0_0 l0_0.length c0_0, .slice A0_1 l0_1.length c0_1]] rfl lmB ?_; (with_reducible refine (impl_SystemValid.calls k _ _ l0_0 _ _ l0_1 true _ ?side1 ?side2 ?side3 ?side4 A3.out).mono ?_); (case side1 => repeat (first | exact (Kd.C_below HR0_0.out HB.out) | (with_reducible refine Kd.C_alloc ?_ _) | (with_reducible refine Kd.C_drewN ?_ _) | (with_reducible refine Kd.C_drew ?_))); (case side2 => exact HC0_0.out); (case side3 => repeat (first | exact (Kd.C_below HR0_1.out HB.out) | (with_reducible refine Kd.C_alloc ?_ _) | (with_reducible refine Kd.C_drewN ?_ _) | (with_reducible refine Kd.C_drew ?_))); (case side4 => exact HC0_1.out); rintro e w8 ⟨rfl, hb⟩; refine ⟨_, rfl, ?_⟩; have n0_ := Aside0.mk (blk_below (g := gb310) (o := .cells #[.slice A0_0 l0_0.length c0_0, .slice A0_1 l0_1.length c0_1] 58 (0, 0)) (bvK BK310.out) hb); have n1_ := Aside0.mk (below_step (by repeat (first | (with_reducible first | exact HB.out | apply bwA | apply bwN | apply bwD | refine below_set ?_ GE310.out) | exact HB.out)) hb); clear BK310; clear HB; have BK310 := n0_; have HB := n1_; clear n0_ n1_; (try clear hb); (try clear hb2); (try clear hk); (try clear hi); have hcz9_0 : w8.cell? ⟨gb310, 0, none⟩ = some (.slice A0_0 l0_0.length c0_0) := (blk_cell BK310.out 0).trans rfl; have hcz9_1 : w8.cell? ⟨gb310, 1, none⟩ = some (.slice A0_1 l0_1.length c0_1) := (blk_cell BK310.out 1).trans rfl; have hfz9_0 := blk_frozen BK310.out 0; have hfz9_1 := blk_frozen BK310.out 1) | (go_at_call 83; (with_reducible refine (impl_rulesOk.calls k _ _ l0_0 _ _ l0_1 _ _ l1 t312 _ ?side1 ?side2 ?side3 ?side4 ?side5 ?side6 A5.out).mono ?_); (case side1 => repeat (first | exact (Kd.C_below HR0_0.out HB.out) | (with_reducible refine Kd.C_alloc ?_ _) | (with_reducible refine Kd.C_drewN ?_ _) | (with_reducible refine Kd.C_drew ?_))); (case side2 => exact HC0_0.out); (case side3 => repeat (first | exact (Kd.C_below HR0_1.out HB.out) | (with_reducible refine Kd.C_alloc ?_ _) | (with_reducible refine Kd.C_drewN ?_ _) | (with_reducible refine Kd.C_drew ?_))); (case side4 => exact HC0_1.out); (case side5 => repeat (first | exact (Kd.C_below HR1.out HB.out) | (with_reducible refine Kd.C_alloc ?_ _) | (with_reducible refine Kd.C_drewN ?_ _) | (with_reducible refine Kd.C_drew ?_))); (case side6 => exact HC1.out); rintro e w10 ⟨rfl, hb⟩; have n0_ := Aside0.mk (blk_below (g := gb310) (o := .cells #[.slice A0_0 l0_0.length c0_0, .slice A0_1 l0_1.length c0_1] 58 (0, 0)) (bvK BK310.out) hb); have n1_ := Aside0.mk (below_step (by repeat (first | (with_reducible first | exact HB.out | apply bwA | apply bwN | apply bwD | refine below_set ?_ GE310.out) | exact HB.out)) hb); clear BK310; clear HB; have BK310 := n0_; have HB := n1_; clear n0_ n1_; (try clear hb); (try clear hb2); (try clear hk); (try clear hi)))
  go_ret
  exact ⟨ers, by repeat (first | (with_reducible first | exact HB.out | apply bwA | apply bwN | apply bwD | refine below_set ?_ GE310.out) | exact HB.out)⟩
 ·replace c4 := Bool.eq_false_iff.mpr c4
  subst c4
  have H1 : (some false) = some r := by rw [if_neg (show ¬ (false = true) by decide)] at H; exact H
  clear H
  have H := H1
  clear H1
  obtain rfl := Option.some.inj H
  go_enter Try.func39, Try.ntmps39
  go_wp2_with (first | ((with_reducible refine gate_dst (N := 2) rfl ?_); refine box_event ?hg (N := 2) ?hd (cs := #[.slice A0_0 l0_0.length c0_0, .slice A0_1 l0_1.length c0_1]) (t := 58) ?hr ?_; (case hd => rfl); (case hg => rfl); (case hr => first | (go_simp; done) | (go_simp; rfl)); intro gb310 hg w11 hbox hb; have n0_ := Aside0.mk (below_step (by repeat (first | (with_reducible first | exact HB.out | apply bwA | apply bwN | apply bwD) | exact HB.out)) hb); have n1_ := Aside0.mk (hbox); have n2_ := Aside0.mk ((by rw [hg]; exact (below_size (by repeat (first | (with_reducible first | exact HB.out | apply bwA | apply bwN | apply bwD) | exact HB.out))) : w.heap.size ≤ gb310)); have n3_ := Aside0.mk ((by rw [hg]; exact (below_size (by repeat (first | (with_reducible first | exact HB.out | apply bwA | apply bwN | apply bwD) | exact HB.out))) : w.heap.size ≤ gb310)); clear HB; have HB := n0_; have BK310 := n1_; have GW310 := n2_; have GE310 := n3_; clear n0_ n1_ n2_ n3_; clear hb hbox hg; have hcz12_0 : w11.cell? ⟨gb310, 0, none⟩ = some (.slice A0_0 l0_0.length c0_0) := (blk_cell BK310.out 0).trans rfl; have hcz12_1 : w11.cell? ⟨gb310, 1, none⟩ = some (.slice A0_1 l0_1.length c0_1) := (blk_cell BK310.out 1).trans rfl; have hfz12_0 := blk_frozen BK310.out 0; have hfz12_1 := blk_frozen BK310.out 1) | ((with_reducible refine gate_callee (f := 41) rfl ?_); refine goesL_ (some 6) rfl rfl Try.func41 (by kernel_rfl) rfl #[.agg #[.slice A0_0 l0_0.length c0_0, .slice A0_1 l0_1.length c0_1]] rfl lmB ?_; (with_reducible refine (impl_SystemValid.calls k _ _ l0_0 _ _ l0_1 false _ ?side1 ?side2 ?side3 ?side4 A3.out).mono ?_); (case side1 => repeat (first | exact (Kd.C_below HR0_0.out HB.out) | (with_reducible refine Kd.C_alloc ?_ _) | (with_reducible refine Kd.C_drewN ?_ _) | (with_reducible refine Kd.C_drew ?_))); (case side2 => exact HC0_0.out); (case side3 => repeat (first | exact (Kd.C_below HR0_1.out HB.out) | (with_reducible refine Kd.C_alloc ?_ _) | (with_reducible refine Kd.C_drewN ?_ _) | (with_reducible refine Kd.C_drew ?_))); (case side4 => exact HC0_1.out); rintro e w13 ⟨rfl, hb⟩; refine ⟨_, rfl, ?_⟩; have n0_ := Aside0.mk (blk_below (g := gb310) (o := .cells #[.slice A0_0 l0_0.length c0_0, .slice A0_1 l0_1.length c0_1] 58 (0, 0)) (bvK BK310.out) hb); have n1_ := Aside0.mk (below_step (by repeat (first | (with_reducible first | exact HB.out | apply bwA | apply bwN | apply bwD | refine below_set ?_ GE310.out) | exact HB.out)) hb); clear BK310; clear HB; have BK310 := n0_; have HB := n1_; clear n0_ n1_; (try clear hb); (try clear hb2); (try clear hk); (try clear hi)))
  go_ret
  exact ⟨ers, by repeat (first | (with_reducible first | exact HB.out | apply bwA | apply bwN | apply bwD | refine below_set ?_ GE310.out) | exact HB.out)⟩

end Go.Proofs.Ytpfkgmcbogcmoaa.QFnExactRulesSet
