-- Written by a program of this session (mk.py). Lean checks it.
import Derived.Test.YtpfkgmcbogcmoaaQFnExactSizeOfx0
import Derived.Test.YtpfkgmcbogcmoaaQFnExactSizeOfx7
import Derived.Test.YtpfkgmcbogcmoaaQFnExactSizeOfx8
namespace Go.Proofs.Ytpfkgmcbogcmoaa.QFnExactSizeOf
open Go.RowKit Go.Proofs.YtpfkgmcbogcmoaaW.PrintWords Go.Proofs.YtpfkgmcbogcmoaaW.PrintLast Go.Proofs.YtpfkgmcbogcmoaaW.PrintMore
attribute [local go_sem] max2_int min2_int max_two min_two max_three min_three max_four min_four   -- for this text's walks alone
set_option linter.unusedVariables false
set_option linter.unusedSimpArgs false

/-! ### impl_ruleOk: function 91 -/
mutual
def impl_ruleOk.j0 : Nat → Int → Bool → List (S73) → List Int → List (List (S73)) → Option (Bool)
 | 0, _, _, _, _, _ => none
 | k + 1, x1, x20, x268000, x268001, x268002 => if x20 = true then (some false) else (impl_ruleOk.l0 k x1 x268001 (x268001.length : Int) 0 x268000 x268001 x268002)
def impl_ruleOk.l0 : Nat → Int → List Int → Int → Int → List (S73) → List Int → List (List (S73)) → Option (Bool)
 | 0, _, _, _, _, _, _, _ => none
 | k + 1, x1, x22, x23, x24, x268000, x268001, x268002 => if x24 < x23 then (if 0 ≤ x24 then (if x24 < (x22.length : Int) then ((impl_in.f (rd x22 x24) 0 (wrap64 (x1 - 1))).bind fun t270 => (if t270 = true then (if x24 > 0 then (if 0 ≤ (wrap64 (x24 - 1)) then (if (wrap64 (x24 - 1)) < (x268001.length : Int) then (if (rd x268001 (wrap64 (x24 - 1))) ≥ (rd x22 x24) then (some false) else (if x24 < (x268002.length : Int) then ((impl_kindOf.f k (rd_L8 x268002 x24) x1).bind fun t273 => (if t273 = 1 then (impl_ruleOk.l0 k x1 x22 x23 (wrap64 (x24 + 1)) x268000 x268001 x268002) else (some false))) else (none))) else (none)) else (none)) else (if x24 < (x268002.length : Int) then ((impl_kindOf.f k (rd_L8 x268002 x24) x1).bind fun t275 => (if t275 = 1 then (impl_ruleOk.l0 k x1 x22 x23 (wrap64 (x24 + 1)) x268000 x268001 x268002) else (some false))) else (none))) else (some false))) else (none)) else (none)) else (some true)
end
def impl_ruleOk.f (k : Nat) (l0_0 : List (S73)) (l0_1 : List Int) (l0_2 : List (List (S73))) (a1 : Int) : Option (Bool) := (impl_kindOf.f k l0_0 a1).bind fun t268 => (if t268 = 2 then (impl_ruleOk.j0 k a1 ((l0_1.length : Int) != (l0_2.length : Int)) l0_0 l0_1 l0_2) else (impl_ruleOk.j0 k a1 true l0_0 l0_1 l0_2))
theorem impl_ruleOk.mono_l : ∀ k, (∀ y0 y1 y2 y3 y4, LeO (impl_ruleOk.j0 k y0 y1 y2 y3 y4) (impl_ruleOk.j0 (k + 1) y0 y1 y2 y3 y4)) ∧ (∀ y0 y1 y2 y3 y4 y5 y6, LeO (impl_ruleOk.l0 k y0 y1 y2 y3 y4 y5 y6) (impl_ruleOk.l0 (k + 1) y0 y1 y2 y3 y4 y5 y6))
 | 0 => ⟨fun _ _ _ _ _ r h => by simp [impl_ruleOk.j0] at h, fun _ _ _ _ _ _ _ r h => by simp [impl_ruleOk.l0] at h⟩
 | k + 1 => by
  obtain ⟨ih0, ih1⟩ := impl_ruleOk.mono_l k
  refine ⟨?_, ?_⟩
  ·intro y0 y1 y2 y3 y4
   unfold impl_ruleOk.j0
   repeat' first
   | (with_reducible exact ih0 _ _ _ _ _)
   | (with_reducible exact ih1 _ _ _ _ _ _ _)
   | (with_reducible exact impl_kindOf.mono _ _ _)
   | (with_reducible exact LeO.refl _)
   | (with_reducible exact LeO.none _)
   | (with_reducible refine LeO.ite ?_ ?_)
   | (with_reducible refine LeO.bind ?_ (fun _ => ?_))
   | exact ih0 _ _ _ _ _
   | exact ih1 _ _ _ _ _ _ _
   | exact impl_kindOf.mono _ _ _
   | exact LeO.none _
   | refine LeO.ite ?_ ?_
   | refine LeO.bind ?_ (fun _ => ?_)
  ·intro y0 y1 y2 y3 y4 y5 y6
   unfold impl_ruleOk.l0
   repeat' first
   | (with_reducible exact ih0 _ _ _ _ _)
   | (with_reducible exact ih1 _ _ _ _ _ _ _)
   | (with_reducible exact impl_kindOf.mono _ _ _)
   | (with_reducible exact LeO.refl _)
   | (with_reducible exact LeO.none _)
   | (with_reducible refine LeO.ite ?_ ?_)
   | (with_reducible refine LeO.bind ?_ (fun _ => ?_))
   | exact ih0 _ _ _ _ _
   | exact ih1 _ _ _ _ _ _ _
   | exact impl_kindOf.mono _ _ _
   | exact LeO.none _
   | refine LeO.ite ?_ ?_
   | refine LeO.bind ?_ (fun _ => ?_)
theorem impl_ruleOk.mono : ∀ a0 a1 a2 a3 k, LeO (impl_ruleOk.f k a0 a1 a2 a3) (impl_ruleOk.f (k + 1) a0 a1 a2 a3) := by
 intro a0 a1 a2 a3 k
 obtain ⟨ih0, ih1⟩ := impl_ruleOk.mono_l k
 unfold impl_ruleOk.f
 repeat' first
   | (with_reducible exact ih0 _ _ _ _ _)
   | (with_reducible exact ih1 _ _ _ _ _ _ _)
   | (with_reducible exact impl_kindOf.mono _ _ _)
   | (with_reducible exact LeO.refl _)
   | (with_reducible exact LeO.none _)
   | (with_reducible refine LeO.ite ?_ ?_)
   | (with_reducible refine LeO.bind ?_ (fun _ => ?_))
   | exact ih0 _ _ _ _ _
   | exact ih1 _ _ _ _ _ _ _
   | exact impl_kindOf.mono _ _ _
   | exact LeO.none _
   | refine LeO.ite ?_ ?_
   | refine LeO.bind ?_ (fun _ => ?_)
set_option maxHeartbeats 8000000 in
set_option maxRecDepth 100000 in
theorem impl_ruleOk.calls (k : Nat) (A0_0 : Option Addr) (c0_0 : Nat) (l0_0 : List (S73)) (A0_1 : Option Addr) (c0_1 : Nat) (l0_1 : List Int) (A0_2 : Option Addr) (c0_2 : Nat) (l0_2 : List (List (S73))) (a1 : Int) (r : Bool) (w : World) (hr0_0 : Kd.C k73 w A0_0 l0_0.length l0_0) (hc0_0 : l0_0.length ≤ c0_0) (hr0_1 : Kd.C (Kd.int .i64) w A0_1 l0_1.length l0_1) (hc0_1 : l0_1.length ≤ c0_1) (hr0_2 : Kd.C (Kd.slice 73 k73) w A0_2 l0_2.length l0_2) (hc0_2 : l0_2.length ≤ c0_2) (h : impl_ruleOk.f k l0_0 l0_1 l0_2 a1 = some r) :
  Calls Try.prog 91 #[.agg #[.slice A0_0 l0_0.length c0_0, .slice A0_1 l0_1.length c0_1, .slice A0_2 l0_2.length c0_2], .int .i64 a1] w fun e w' => e = .returned (.bool r) ∧ Below w.heap.size w w' := by
 have hu109 := Try.underlying109
 have HR0_0 := Aside0.mk hr0_0
 have HC0_0 := Aside0.mk hc0_0
 clear hr0_0 hc0_0
 have HR0_1 := Aside0.mk hr0_1
 have HC0_1 := Aside0.mk hc0_1
 clear hr0_1 hc0_1
 have HR0_2 := Aside0.mk hr0_2
 have HC0_2 := Aside0.mk hc0_2
 clear hr0_2 hc0_2
 have HB := Aside0.mk (Below.refl w.heap.size w)
 have H : ((impl_kindOf.f k l0_0 a1).bind fun t268 => (if t268 = 2 then (impl_ruleOk.j0 k a1 ((l0_1.length : Int) != (l0_2.length : Int)) l0_0 l0_1 l0_2) else (impl_ruleOk.j0 k a1 true l0_0 l0_1 l0_2))) = some r := h
 clear h
 have HC3 := Aside0.mk H
 clear H
 go_enter Try.func91, Try.ntmps91
 go_upto_region 1 with (first | ((with_reducible refine gate_dst (N := 2) rfl ?_); (try (refine gate_guard (by rfl) ?_; dsimp only)); refine box_event ?hg (N := 2) ?hd (cs := #[.slice A0_0 l0_0.length c0_0, .slice A0_1 l0_1.length c0_1, .slice A0_2 l0_2.length c0_2]) (t := 109) ?hr ?_; (case hd => rfl); (case hg => rfl); (case hr => first | (go_simp; done) | (go_simp; rfl)); intro gb267 hg w4 hbox hb; have n0_ := Aside0.mk (below_step (by repeat (first | (with_reducible first | exact HB.out | apply bwA | apply bwN | apply bwD) | exact HB.out)) hb); have n1_ := Aside0.mk (hbox); have n2_ := Aside0.mk ((by rw [hg]; exact (below_size (by repeat (first | (with_reducible first | exact HB.out | apply bwA | apply bwN | apply bwD) | exact HB.out))) : w.heap.size ≤ gb267)); have n3_ := Aside0.mk ((by rw [hg]; exact (below_size (by repeat (first | (with_reducible first | exact HB.out | apply bwA | apply bwN | apply bwD) | exact HB.out))) : w.heap.size ≤ gb267)); clear HB; have HB := n0_; have BK267 := n1_; have GW267 := n2_; have GE267 := n3_; clear n0_ n1_ n2_ n3_; clear hb hbox hg))
 (try simp only [Act.put, List.setIfInBounds_toArray, List.set_cons_zero, List.set_cons_succ])
 go_cut [20] (fun v20 wc => ∃ (kq : Nat) (x20_2 : Bool), v20 = .bool x20_2 ∧ Aside0 (impl_ruleOk.j0 kq a1 x20_2 l0_0 l0_1 l0_2 = some r) ∧ Aside0 (kq ≤ k) ∧ Aside0 (wc.heap[gb267]? = some (.cells #[(.slice A0_0 l0_0.length c0_0), (.slice A0_1 l0_1.length c0_1), (.slice A0_2 l0_2.length c0_2)] 109 (0, 0))) ∧ Aside0 (Below w.heap.size w wc))
 case first =>
  have H := HC3.out
  clear HC3
  replace H := Option.bind_eq_some_iff.mp H
  obtain ⟨t268, A50, H⟩ := H
  replace H : (if t268 = 2 then (impl_ruleOk.j0 k a1 ((l0_1.length : Int) != (l0_2.length : Int)) l0_0 l0_1 l0_2) else (impl_ruleOk.j0 k a1 true l0_0 l0_1 l0_2)) = some r := H
  have A5 := Aside0.mk A50
  clear A50
  by_cases c6 : t268 = 2
  ·rw [if_pos c6] at H
   have c6b0 : (t268 == 2) = true := beq_iff_eq.mpr c6
   have c6b1 : (t268 != 2) = false := bne_eq_false_iff_eq.mpr c6
   clear c6
   (first | rw [c6b0] | (simp only [i64_w, i32_w]; rw [c6b0]) | skip)
   have H' := Aside0.mk H
   clear H
   have hcz7_0 : w4.cell? ⟨gb267, 0, none⟩ = some (.slice A0_0 l0_0.length c0_0) := (blk_cell BK267.out 0).trans rfl
   have hcz7_1 : w4.cell? ⟨gb267, 1, none⟩ = some (.slice A0_1 l0_1.length c0_1) := (blk_cell BK267.out 1).trans rfl
   have hcz7_2 : w4.cell? ⟨gb267, 2, none⟩ = some (.slice A0_2 l0_2.length c0_2) := (blk_cell BK267.out 2).trans rfl
   have hfz7_0 := blk_frozen BK267.out 0
   have hfz7_1 := blk_frozen BK267.out 1
   have hfz7_2 := blk_frozen BK267.out 2
   go_wp2_with (first | ((with_reducible refine gate_callee (f := 127) rfl ?_); refine goesL_ (some 10) rfl rfl Try.func127 (by kernel_rfl) rfl #[.slice A0_0 l0_0.length c0_0, .int .i64 a1] rfl lmB ?_; (with_reducible refine (impl_kindOf.calls k _ _ l0_0 a1 t268 _ ?side1 ?side2 A5.out).mono ?_); (case side1 => repeat (first | exact (Kd.C_below HR0_0.out HB.out) | (with_reducible refine Kd.C_alloc ?_ _) | (with_reducible refine Kd.C_drewN ?_ _) | (with_reducible refine Kd.C_drew ?_))); (case side2 => exact HC0_0.out); rintro e w8 ⟨rfl, hb⟩; refine ⟨_, rfl, ?_⟩; have n0_ := Aside0.mk (blk_below (g := gb267) (o := .cells #[.slice A0_0 l0_0.length c0_0, .slice A0_1 l0_1.length c0_1, .slice A0_2 l0_2.length c0_2] 109 (0, 0)) (bvK BK267.out) hb); have n1_ := Aside0.mk (below_step (by repeat (first | (with_reducible first | exact HB.out | apply bwA | apply bwN | apply bwD | refine below_set ?_ GE267.out) | exact HB.out)) hb); clear BK267; clear HB; have BK267 := n0_; have HB := n1_; clear n0_ n1_; (try clear hb); (try clear hb2); (try clear hk); (try clear hi); have hcz9_0 : w8.cell? ⟨gb267, 0, none⟩ = some (.slice A0_0 l0_0.length c0_0) := (blk_cell BK267.out 0).trans rfl; have hcz9_1 : w8.cell? ⟨gb267, 1, none⟩ = some (.slice A0_1 l0_1.length c0_1) := (blk_cell BK267.out 1).trans rfl; have hcz9_2 : w8.cell? ⟨gb267, 2, none⟩ = some (.slice A0_2 l0_2.length c0_2) := (blk_cell BK267.out 2).trans rfl; have hfz9_0 := blk_frozen BK267.out 0; have hfz9_1 := blk_frozen BK267.out 1; have hfz9_2 := blk_frozen BK267.out 2))
   go_meet
   case rel => exact ⟨_, (((l0_1.length : Int) != (l0_2.length : Int))), rsd, H', ⟨by first | omega | exact Nat.le_refl _⟩, ⟨bvK BK267.out⟩, ⟨by repeat (first | (with_reducible first | exact HB.out | apply bwA | apply bwN | apply bwD | refine below_set ?_ GE267.out) | exact HB.out)⟩⟩
  ·rw [if_neg c6] at H
   have c6b0 : (t268 == 2) = false := beq_eq_false_iff_ne.mpr c6
   have c6b1 : (t268 != 2) = true := bne_iff_ne.mpr c6
   (first | rw [c6b0] | (simp only [i64_w, i32_w]; rw [c6b0]) | skip)
   have H' := Aside0.mk H
   clear H
   have hcz10_0 : w4.cell? ⟨gb267, 0, none⟩ = some (.slice A0_0 l0_0.length c0_0) := (blk_cell BK267.out 0).trans rfl
   have hcz10_1 : w4.cell? ⟨gb267, 1, none⟩ = some (.slice A0_1 l0_1.length c0_1) := (blk_cell BK267.out 1).trans rfl
   have hcz10_2 : w4.cell? ⟨gb267, 2, none⟩ = some (.slice A0_2 l0_2.length c0_2) := (blk_cell BK267.out 2).trans rfl
   have hfz10_0 := blk_frozen BK267.out 0
   have hfz10_1 := blk_frozen BK267.out 1
   have hfz10_2 := blk_frozen BK267.out 2
   go_wp2_with (first | ((with_reducible refine gate_callee (f := 127) rfl ?_); refine goesL_ (some 10) rfl rfl Try.func127 (by kernel_rfl) rfl #[.slice A0_0 l0_0.length c0_0, .int .i64 a1] rfl lmB ?_; (with_reducible refine (impl_kindOf.calls k _ _ l0_0 a1 t268 _ ?side1 ?side2 A5.out).mono ?_); (case side1 => repeat (first | exact (Kd.C_below HR0_0.out HB.out) | (with_reducible refine Kd.C_alloc ?_ _) | (with_reducible refine Kd.C_drewN ?_ _) | (with_reducible refine Kd.C_drew ?_))); (case side2 => exact HC0_0.out); rintro e w11 ⟨rfl, hb⟩; refine ⟨_, rfl, ?_⟩; have n0_ := Aside0.mk (blk_below (g := gb267) (o := .cells #[.slice A0_0 l0_0.length c0_0, .slice A0_1 l0_1.length c0_1, .slice A0_2 l0_2.length c0_2] 109 (0, 0)) (bvK BK267.out) hb); have n1_ := Aside0.mk (below_step (by repeat (first | (with_reducible first | exact HB.out | apply bwA | apply bwN | apply bwD | refine below_set ?_ GE267.out) | exact HB.out)) hb); clear BK267; clear HB; have BK267 := n0_; have HB := n1_; clear n0_ n1_; (try clear hb); (try clear hb2); (try clear hk); (try clear hi)))
   go_meet
   case rel => exact ⟨_, (true), rsd, H', ⟨by first | omega | exact Nat.le_refl _⟩, ⟨bvK BK267.out⟩, ⟨by repeat (first | (with_reducible first | exact HB.out | apply bwA | apply bwN | apply bwD | refine below_set ?_ GE267.out) | exact HB.out)⟩⟩
 case rest =>
  clear HC3
  try clear c1
  try clear p2
  try clear c6
  try clear c6b0
  try clear c6b1
  try clear c9
  try clear hcz10_0
  try clear hcz10_1
  try clear hcz10_2
  try clear hcz7_0
  try clear hcz7_1
  try clear hcz7_2
  try clear hcz9_0
  try clear hcz9_1
  try clear hcz9_2
  try clear hfz10_0
  try clear hfz10_1
  try clear hfz10_2
  try clear hfz7_0
  try clear hfz7_1
  try clear hfz7_2
  try clear hfz9_0
  try clear hfz9_1
  try clear hfz9_2
  obtain ⟨kq, x20_2, rfl, HA, HJ2, BK267, HB⟩ := hcut
  cases kq with
  | zero => exact absurd HA.out (by simp [impl_ruleOk.j0])
  | succ kj2 =>
   have H := HA.out
   clear HA
   simp only [impl_ruleOk.j0] at H
   by_cases c12 : x20_2 = true
   ·subst c12
    have H1 : (some false) = some r := by rw [if_pos rfl] at H; exact H
    clear H
    have H := H1
    clear H1
    obtain rfl := Option.some.inj H
    go_wp2
    go_ret
    exact ⟨ers, by repeat (first | (with_reducible first | exact HB.out | apply bwA | apply bwN | apply bwD | refine below_set ?_ GE267.out) | exact HB.out)⟩
   ·replace c12 := Bool.eq_false_iff.mpr c12
    subst c12
    have H1 : (impl_ruleOk.l0 kj2 a1 l0_1 (l0_1.length : Int) 0 l0_0 l0_1 l0_2) = some r := by rw [if_neg (show ¬ (false = true) by decide)] at H; exact H
    clear H
    have H := H1
    clear H1
    have H' := Aside0.mk H
    clear H
    have hcz13_0 : wc.cell? ⟨gb267, 0, none⟩ = some (.slice A0_0 l0_0.length c0_0) := (blk_cell BK267.out 0).trans rfl
    have hcz13_1 : wc.cell? ⟨gb267, 1, none⟩ = some (.slice A0_1 l0_1.length c0_1) := (blk_cell BK267.out 1).trans rfl
    have hcz13_2 : wc.cell? ⟨gb267, 2, none⟩ = some (.slice A0_2 l0_2.length c0_2) := (blk_cell BK267.out 2).trans rfl
    have hfz13_0 := blk_frozen BK267.out 0
    have hfz13_1 := blk_frozen BK267.out 1
    have hfz13_2 := blk_frozen BK267.out 2
    go_wp2
    go_loopg [24] kj2 (fun kq v24 w' => ∃ (x24_2 : Int), v24 = .int .i64 x24_2 ∧ Aside0 (impl_ruleOk.l0 kq a1 l0_1 (l0_1.length : Int) x24_2 l0_0 l0_1 l0_2 = some r) ∧ Aside0 (kq ≤ kj2) ∧ Aside0 (w'.heap[gb267]? = some (.cells #[(.slice A0_0 l0_0.length c0_0), (.slice A0_1 l0_1.length c0_1), (.slice A0_2 l0_2.length c0_2)] 109 (0, 0))) ∧ Aside0 (Below w.heap.size w w'))
    case atStart => exact ⟨(0), rsd, H', ⟨Nat.le_refl _⟩, ⟨bvK BK267.out⟩, ⟨by repeat (first | (with_reducible first | exact HB.out | apply bwA | apply bwN | apply bwD | refine below_set ?_ GE267.out) | exact HB.out)⟩⟩
    case round =>
     clear H'
     try clear c1
     try clear p2
     try clear c6
     try clear c6b0
     try clear c6b1
     try clear c9
     try clear c12
     try clear hcz10_0
     try clear hcz10_1
     try clear hcz10_2
     try clear hcz13_0
     try clear hcz13_1
     try clear hcz13_2
     try clear hcz7_0
     try clear hcz7_1
     try clear hcz7_2
     try clear hcz9_0
     try clear hcz9_1
     try clear hcz9_2
     try clear hfz10_0
     try clear hfz10_1
     try clear hfz10_2
     try clear hfz13_0
     try clear hfz13_1
     try clear hfz13_2
     try clear hfz7_0
     try clear hfz7_1
     try clear hfz7_2
     try clear hfz9_0
     try clear hfz9_1
     try clear hfz9_2
     try clear p2
     obtain ⟨x24_2, rfl, HA, HK2, BK267, HB⟩ := hrel
     cases gk with
     | zero => exact absurd HA.out (by simp [impl_ruleOk.l0])
     | succ k2 =>
      have H := HA.out
      clear HA
      simp only [impl_ruleOk.l0] at H
      by_cases c14 : x24_2 < (l0_1.length : Int)
      ·rw [if_pos c14] at H
       have c14b0 : decide (x24_2 < (l0_1.length : Int)) = true := decide_eq_true c14
       clear c14
       by_cases c15 : 0 ≤ x24_2
       ·rw [if_pos c15] at H
        have c15b0 : decide (0 ≤ x24_2) = true := decide_eq_true c15
        clear c15
        by_cases c16 : x24_2 < (l0_1.length : Int)
        ·rw [if_pos c16] at H
         have c16b0 : decide (x24_2 < (l0_1.length : Int)) = true := decide_eq_true c16
         clear c16
         replace H := Option.bind_eq_some_iff.mp H
         obtain ⟨t270, A170, H⟩ := H
         replace H : (if t270 = true then (if x24_2 > 0 then (if 0 ≤ (wrap64 (x24_2 - 1)) then (if (wrap64 (x24_2 - 1)) < (l0_1.length : Int) then (if (rd l0_1 (wrap64 (x24_2 - 1))) ≥ (rd l0_1 x24_2) then (some false) else (if x24_2 < (l0_2.length : Int) then ((impl_kindOf.f k2 (rd_L8 l0_2 x24_2) a1).bind fun t273 => (if t273 = 1 then (impl_ruleOk.l0 k2 a1 l0_1 (l0_1.length : Int) (wrap64 (x24_2 + 1)) l0_0 l0_1 l0_2) else (some false))) else (none))) else (none)) else (none)) else (if x24_2 < (l0_2.length : Int) then ((impl_kindOf.f k2 (rd_L8 l0_2 x24_2) a1).bind fun t275 => (if t275 = 1 then (impl_ruleOk.l0 k2 a1 l0_1 (l0_1.length : Int) (wrap64 (x24_2 + 1)) l0_0 l0_1 l0_2) else (some false))) else (none))) else (some false)) = some r := H
         have A17 := Aside0.mk A170
         clear A170
         by_cases c18 : t270 = true
         ·subst c18
          have H1 : (if x24_2 > 0 then (if 0 ≤ (wrap64 (x24_2 - 1)) then (if (wrap64 (x24_2 - 1)) < (l0_1.length : Int) then (if (rd l0_1 (wrap64 (x24_2 - 1))) ≥ (rd l0_1 x24_2) then (some false) else (if x24_2 < (l0_2.length : Int) then ((impl_kindOf.f k2 (rd_L8 l0_2 x24_2) a1).bind fun t273 => (if t273 = 1 then (impl_ruleOk.l0 k2 a1 l0_1 (l0_1.length : Int) (wrap64 (x24_2 + 1)) l0_0 l0_1 l0_2) else (some false))) else (none))) else (none)) else (none)) else (if x24_2 < (l0_2.length : Int) then ((impl_kindOf.f k2 (rd_L8 l0_2 x24_2) a1).bind fun t275 => (if t275 = 1 then (impl_ruleOk.l0 k2 a1 l0_1 (l0_1.length : Int) (wrap64 (x24_2 + 1)) l0_0 l0_1 l0_2) else (some false))) else (none))) = some r := by rw [if_pos rfl] at H; exact H
          clear H
          have H := H1
          clear H1
          by_cases c19 : x24_2 > 0
          ·rw [if_pos c19] at H
           have c19b0 : decide (0 < x24_2) = true := decide_eq_true c19
           clear c19
           obtain ⟨ji20, hji20⟩ : ∃ j_ : Int, (wrap64 (x24_2 - 1)) = j_ := ⟨_, rfl⟩
           replace H : (if 0 ≤ (ji20) then (if (ji20) < (l0_1.length : Int) then (if (rd l0_1 (ji20)) ≥ (rd l0_1 x24_2) then (some false) else (if x24_2 < (l0_2.length : Int) then ((impl_kindOf.f k2 (rd_L8 l0_2 x24_2) a1).bind fun t273 => (if t273 = 1 then (impl_ruleOk.l0 k2 a1 l0_1 (l0_1.length : Int) (wrap64 (x24_2 + 1)) l0_0 l0_1 l0_2) else (some false))) else (none))) else (none)) else (none)) = some r := by first | (rw [hji20] at H; exact H) | (simp only [hji20] at H ⊢; exact H)
           (try rw [hji20] at A17)
           have hji20w : (IntKind.i64.wrap (x24_2 - 1)) = ji20 := (i64_w _).trans hji20
           by_cases c21 : 0 ≤ (ji20)
           ·rw [if_pos c21] at H
            have c21b0 : decide (0 ≤ (ji20)) = true := decide_eq_true c21
            clear c21
            by_cases c22 : (ji20) < (l0_1.length : Int)
            ·rw [if_pos c22] at H
             have c22b0 : decide ((ji20) < (l0_1.length : Int)) = true := decide_eq_true c22
             clear c22
             by_cases c23 : (rd l0_1 (ji20)) ≥ (rd l0_1 x24_2)
             ·rw [if_pos c23] at H
              have c23b0 : decide ((rd l0_1 x24_2) ≤ (rd l0_1 (ji20))) = true := decide_eq_true c23
              clear c23
              obtain rfl := Option.some.inj H
              have p269 : 0 ≤ (x24_2 : Int) := oda
              have q269 : x24_2 < (l0_1.length : Int) := oda
              obtain ⟨ad269, e269, hx269_0⟩ := Kd.at_int HR0_1.out x24_2 p269 q269
              cases e269
              try replace hx269_0 := bct HB.out hx269_0
              replace p269 := eq_true p269
              replace q269 := eq_true q269
              (try rw [hl272_0] at c22b0)
              (try rw [hl274_0] at c22b0)
              go_wp2_with (first | ((with_reducible refine gate_callee (f := 62) rfl ?_); refine goesL_ (some 32) rfl rfl Try.func62 (by kernel_rfl) rfl #[.int .i64 (rd l0_1 x24_2), .int .i64 0, .int .i64 (wrap64 (a1 - 1))] rfl lmB ?_; (with_reducible refine (impl_in.calls (rd l0_1 x24_2) 0 (wrap64 (a1 - 1)) true _ A17.out).mono ?_); rintro e w' ⟨rfl, ⟨nd, rfl⟩⟩; refine ⟨_, rfl, ?_⟩; have hcz24_0 : wr.cell? ⟨gb267, 0, none⟩ = some (.slice A0_0 l0_0.length c0_0) := (blk_cell BK267.out 0).trans rfl; have hcz24_1 : wr.cell? ⟨gb267, 1, none⟩ = some (.slice (some ad269) l0_1.length c0_1) := (blk_cell BK267.out 1).trans rfl; have hcz24_2 : wr.cell? ⟨gb267, 2, none⟩ = some (.slice A0_2 l0_2.length c0_2) := (blk_cell BK267.out 2).trans rfl; have hfz24_0 := blk_frozen BK267.out 0; have hfz24_1 := blk_frozen BK267.out 1; have hfz24_2 := blk_frozen BK267.out 2; have p271 : 0 ≤ ((ji20) : Int) := oda; have q271 : (ji20) < (l0_1.length : Int) := oda; obtain ⟨ad271, e271, hx271_0⟩ := Kd.at_int HR0_1.out (ji20) p271 q271; obtain rfl : ad269 = ad271 := (by injection e271); replace hx271_0 := bct HB.out hx271_0; replace p271 := eq_true p271; replace q271 := eq_true q271))
              go_ret
              exact ⟨by first | rfl | (simp [errW_none, errW_some] <;> rfl) | (simp only [← hji20]; first | rfl | (simp [errW_none, errW_some] <;> rfl)) | (simp [*, errW_none, errW_some] <;> rfl), by repeat (first | (with_reducible first | exact HB.out | apply bwA | apply bwN | apply bwD | refine below_set ?_ GE267.out) | exact HB.out)⟩
             ·rw [if_neg c23] at H
              have c23b0 : decide ((rd l0_1 x24_2) ≤ (rd l0_1 (ji20))) = false := decide_eq_false c23
              clear c23
              by_cases c25 : x24_2 < (l0_2.length : Int)
              ·rw [if_pos c25] at H
               have c25b0 : decide (x24_2 < (l0_2.length : Int)) = true := decide_eq_true c25
               clear c25
               replace H := Option.bind_eq_some_iff.mp H
               obtain ⟨t273, A260, H⟩ := H
               replace H : (if t273 = 1 then (impl_ruleOk.l0 k2 a1 l0_1 (l0_1.length : Int) (wrap64 (x24_2 + 1)) l0_0 l0_1 l0_2) else (some false)) = some r := H
               have A26 := Aside0.mk A260
               clear A260
               by_cases c27 : t273 = 1
               ·rw [if_pos c27] at H
                have c27b0 : (t273 == 1) = true := beq_iff_eq.mpr c27
                have c27b1 : (t273 != 1) = false := bne_eq_false_iff_eq.mpr c27
                clear c27
                have H' := Aside0.mk H
                clear H
                have p269 : 0 ≤ (x24_2 : Int) := oda
                have q269 : x24_2 < (l0_1.length : Int) := oda
                obtain ⟨ad269, e269, hx269_0⟩ := Kd.at_int HR0_1.out x24_2 p269 q269
                cases e269
                try replace hx269_0 := bct HB.out hx269_0
                replace p269 := eq_true p269
                replace q269 := eq_true q269
                go_wp2_with (first | ((with_reducible refine gate_callee (f := 62) rfl ?_); refine goesL_ (some 32) rfl rfl Try.func62 (by kernel_rfl) rfl #[.int .i64 (rd l0_1 x24_2), .int .i64 0, .int .i64 (wrap64 (a1 - 1))] rfl lmB ?_; (with_reducible refine (impl_in.calls (rd l0_1 x24_2) 0 (wrap64 (a1 - 1)) true _ A17.out).mono ?_); rintro e w' ⟨rfl, ⟨nd, rfl⟩⟩; refine ⟨_, rfl, ?_⟩; have hcz28_0 : wr.cell? ⟨gb267, 0, none⟩ = some (.slice A0_0 l0_0.length c0_0) := (blk_cell BK267.out 0).trans rfl; have hcz28_1 : wr.cell? ⟨gb267, 1, none⟩ = some (.slice (some ad269) l0_1.length c0_1) := (blk_cell BK267.out 1).trans rfl; have hcz28_2 : wr.cell? ⟨gb267, 2, none⟩ = some (.slice A0_2 l0_2.length c0_2) := (blk_cell BK267.out 2).trans rfl; have hfz28_0 := blk_frozen BK267.out 0; have hfz28_1 := blk_frozen BK267.out 1; have hfz28_2 := blk_frozen BK267.out 2; have p271 : 0 ≤ ((ji20) : Int) := oda; have q271 : (ji20) < (l0_1.length : Int) := oda; obtain ⟨ad271, e271, hx271_0⟩ := Kd.at_int HR0_1.out (ji20) p271 q271; obtain rfl : ad269 = ad271 := (by injection e271); replace hx271_0 := bct HB.out hx271_0; replace p271 := eq_true p271; replace q271 := eq_true q271; have p272 : 0 ≤ (x24_2 : Int) := oda; have q272 : x24_2 < (l0_2.length : Int) := oda; obtain ⟨ad272, A272_0, c272_0, e272, hx272_0, hl272_0, hi272_0⟩ := at_L8 HR0_2.out x24_2 p272 q272; cases e272; replace hx272_0 := bct HB.out hx272_0; have HR272_0 := Aside0.mk hi272_0; have HC272_0 := Aside0.mk hl272_0; clear hi272_0 hl272_0; replace p272 := eq_true p272; replace q272 := eq_true q272) | (go_at_call 127; (with_reducible refine (impl_kindOf.calls k2 _ _ (rd_L8 l0_2 x24_2) a1 t273 _ ?side1 ?side2 A26.out).mono ?_); (case side1 => repeat (first | exact (Kd.C_below HR272_0.out (by repeat (first | (with_reducible first | exact HB.out | apply bwA | apply bwN | apply bwD | refine below_set ?_ GE267.out) | exact HB.out))) | (with_reducible refine Kd.C_alloc ?_ _) | (with_reducible refine Kd.C_drewN ?_ _) | (with_reducible refine Kd.C_drew ?_))); (case side2 => exact HC272_0.out); rintro e w29 ⟨rfl, hb⟩; have n0_ := Aside0.mk (blk_below (g := gb267) (o := .cells #[.slice A0_0 l0_0.length c0_0, .slice (some ad269) l0_1.length c0_1, .slice (some ad272) l0_2.length c0_2] 109 (0, 0)) (bvK BK267.out) hb); have n1_ := Aside0.mk (below_step (by repeat (first | (with_reducible first | exact HB.out | apply bwA | apply bwN | apply bwD | refine below_set ?_ GE267.out) | exact HB.out)) hb); clear BK267; clear HB; have BK267 := n0_; have HB := n1_; clear n0_ n1_; (try clear hb); (try clear hb2); (try clear hk); (try clear hi)))
                go_roundg k2
                case measure => have := HJ2.out; have := HK2.out; omega
                case rel => exact ⟨(wrap64 (x24_2 + 1)), rsd, H', ⟨by have := HJ2.out; have := HK2.out; omega⟩, ⟨bvK BK267.out⟩, ⟨by repeat (first | (with_reducible first | exact HB.out | apply bwA | apply bwN | apply bwD | refine below_set ?_ GE267.out) | exact HB.out)⟩⟩
               ·rw [if_neg c27] at H
                have c27b0 : (t273 == 1) = false := beq_eq_false_iff_ne.mpr c27
                have c27b1 : (t273 != 1) = true := bne_iff_ne.mpr c27
                obtain rfl := Option.some.inj H
                have p269 : 0 ≤ (x24_2 : Int) := oda
                have q269 : x24_2 < (l0_1.length : Int) := oda
                obtain ⟨ad269, e269, hx269_0⟩ := Kd.at_int HR0_1.out x24_2 p269 q269
                cases e269
                try replace hx269_0 := bct HB.out hx269_0
                replace p269 := eq_true p269
                replace q269 := eq_true q269
                go_wp2_with (first | ((with_reducible refine gate_callee (f := 62) rfl ?_); refine goesL_ (some 32) rfl rfl Try.func62 (by kernel_rfl) rfl #[.int .i64 (rd l0_1 x24_2), .int .i64 0, .int .i64 (wrap64 (a1 - 1))] rfl lmB ?_; (with_reducible refine (impl_in.calls (rd l0_1 x24_2) 0 (wrap64 (a1 - 1)) true _ A17.out).mono ?_); rintro e w' ⟨rfl, ⟨nd, rfl⟩⟩; refine ⟨_, rfl, ?_⟩; have hcz30_0 : wr.cell? ⟨gb267, 0, none⟩ = some (.slice A0_0 l0_0.length c0_0) := (blk_cell BK267.out 0).trans rfl; have hcz30_1 : wr.cell? ⟨gb267, 1, none⟩ = some (.slice (some ad269) l0_1.length c0_1) := (blk_cell BK267.out 1).trans rfl; have hcz30_2 : wr.cell? ⟨gb267, 2, none⟩ = some (.slice A0_2 l0_2.length c0_2) := (blk_cell BK267.out 2).trans rfl; have hfz30_0 := blk_frozen BK267.out 0; have hfz30_1 := blk_frozen BK267.out 1; have hfz30_2 := blk_frozen BK267.out 2; have p271 : 0 ≤ ((ji20) : Int) := oda; have q271 : (ji20) < (l0_1.length : Int) := oda; obtain ⟨ad271, e271, hx271_0⟩ := Kd.at_int HR0_1.out (ji20) p271 q271; obtain rfl : ad269 = ad271 := (by injection e271); replace hx271_0 := bct HB.out hx271_0; replace p271 := eq_true p271; replace q271 := eq_true q271; have p272 : 0 ≤ (x24_2 : Int) := oda; have q272 : x24_2 < (l0_2.length : Int) := oda; obtain ⟨ad272, A272_0, c272_0, e272, hx272_0, hl272_0, hi272_0⟩ := at_L8 HR0_2.out x24_2 p272 q272; cases e272; replace hx272_0 := bct HB.out hx272_0; have HR272_0 := Aside0.mk hi272_0; have HC272_0 := Aside0.mk hl272_0; clear hi272_0 hl272_0; replace p272 := eq_true p272; replace q272 := eq_true q272) | (go_at_call 127; (with_reducible refine (impl_kindOf.calls k2 _ _ (rd_L8 l0_2 x24_2) a1 t273 _ ?side1 ?side2 A26.out).mono ?_); (case side1 => repeat (first | exact (Kd.C_below HR272_0.out (by repeat (first | (with_reducible first | exact HB.out | apply bwA | apply bwN | apply bwD | refine below_set ?_ GE267.out) | exact HB.out))) | (with_reducible refine Kd.C_alloc ?_ _) | (with_reducible refine Kd.C_drewN ?_ _) | (with_reducible refine Kd.C_drew ?_))); (case side2 => exact HC272_0.out); rintro e w31 ⟨rfl, hb⟩; have n0_ := Aside0.mk (blk_below (g := gb267) (o := .cells #[.slice A0_0 l0_0.length c0_0, .slice (some ad269) l0_1.length c0_1, .slice (some ad272) l0_2.length c0_2] 109 (0, 0)) (bvK BK267.out) hb); have n1_ := Aside0.mk (below_step (by repeat (first | (with_reducible first | exact HB.out | apply bwA | apply bwN | apply bwD | refine below_set ?_ GE267.out) | exact HB.out)) hb); clear BK267; clear HB; have BK267 := n0_; have HB := n1_; clear n0_ n1_; (try clear hb); (try clear hb2); (try clear hk); (try clear hi)))
                go_ret
                exact ⟨by first | rfl | (simp [errW_none, errW_some] <;> rfl) | (simp only [← hji20]; first | rfl | (simp [errW_none, errW_some] <;> rfl)) | (simp [*, errW_none, errW_some] <;> rfl), by repeat (first | (with_reducible first | exact HB.out | apply bwA | apply bwN | apply bwD | refine below_set ?_ GE267.out) | exact HB.out)⟩
              ·rw [if_neg c25] at H
               exact absurd H (by simp)
            ·rw [if_neg c22] at H
             exact absurd H (by simp)
           ·rw [if_neg c21] at H
            exact absurd H (by simp)
          ·rw [if_neg c19] at H
           have c19b0 : decide (0 < x24_2) = false := decide_eq_false c19
           clear c19
           by_cases c32 : x24_2 < (l0_2.length : Int)
           ·rw [if_pos c32] at H
            have c32b0 : decide (x24_2 < (l0_2.length : Int)) = true := decide_eq_true c32
            clear c32
            replace H := Option.bind_eq_some_iff.mp H
            obtain ⟨t275, A330, H⟩ := H
            replace H : (if t275 = 1 then (impl_ruleOk.l0 k2 a1 l0_1 (l0_1.length : Int) (wrap64 (x24_2 + 1)) l0_0 l0_1 l0_2) else (some false)) = some r := H
            have A33 := Aside0.mk A330
            clear A330
            by_cases c34 : t275 = 1
            ·rw [if_pos c34] at H
             have c34b0 : (t275 == 1) = true := beq_iff_eq.mpr c34
             have c34b1 : (t275 != 1) = false := bne_eq_false_iff_eq.mpr c34
             clear c34
             have H' := Aside0.mk H
             clear H
             have p269 : 0 ≤ (x24_2 : Int) := oda
             have q269 : x24_2 < (l0_1.length : Int) := oda
             obtain ⟨ad269, e269, hx269_0⟩ := Kd.at_int HR0_1.out x24_2 p269 q269
             cases e269
             try replace hx269_0 := bct HB.out hx269_0
             replace p269 := eq_true p269
             replace q269 := eq_true q269
             go_wp2_with (first | ((with_reducible refine gate_callee (f := 62) rfl ?_); refine goesL_ (some 32) rfl rfl Try.func62 (by kernel_rfl) rfl #[.int .i64 (rd l0_1 x24_2), .int .i64 0, .int .i64 (wrap64 (a1 - 1))] rfl lmB ?_; (with_reducible refine (impl_in.calls (rd l0_1 x24_2) 0 (wrap64 (a1 - 1)) true _ A17.out).mono ?_); rintro e w' ⟨rfl, ⟨nd, rfl⟩⟩; refine ⟨_, rfl, ?_⟩; have hcz35_0 : wr.cell? ⟨gb267, 0, none⟩ = some (.slice A0_0 l0_0.length c0_0) := (blk_cell BK267.out 0).trans rfl; have hcz35_1 : wr.cell? ⟨gb267, 1, none⟩ = some (.slice (some ad269) l0_1.length c0_1) := (blk_cell BK267.out 1).trans rfl; have hcz35_2 : wr.cell? ⟨gb267, 2, none⟩ = some (.slice A0_2 l0_2.length c0_2) := (blk_cell BK267.out 2).trans rfl; have hfz35_0 := blk_frozen BK267.out 0; have hfz35_1 := blk_frozen BK267.out 1; have hfz35_2 := blk_frozen BK267.out 2; have p274 : 0 ≤ (x24_2 : Int) := oda; have q274 : x24_2 < (l0_2.length : Int) := oda; obtain ⟨ad274, A274_0, c274_0, e274, hx274_0, hl274_0, hi274_0⟩ := at_L8 HR0_2.out x24_2 p274 q274; cases e274; replace hx274_0 := bct HB.out hx274_0; have HR274_0 := Aside0.mk hi274_0; have HC274_0 := Aside0.mk hl274_0; clear hi274_0 hl274_0; replace p274 := eq_true p274; replace q274 := eq_true q274) | (go_at_call 127; (with_reducible refine (impl_kindOf.calls k2 _ _ (rd_L8 l0_2 x24_2) a1 t275 _ ?side1 ?side2 A33.out).mono ?_); (case side1 => repeat (first | exact (Kd.C_below HR274_0.out (by repeat (first | (with_reducible first | exact HB.out | apply bwA | apply bwN | apply bwD | refine below_set ?_ GE267.out) | exact HB.out))) | (with_reducible refine Kd.C_alloc ?_ _) | (with_reducible refine Kd.C_drewN ?_ _) | (with_reducible refine Kd.C_drew ?_))); (case side2 => exact HC274_0.out); rintro e w36 ⟨rfl, hb⟩; have n0_ := Aside0.mk (blk_below (g := gb267) (o := .cells #[.slice A0_0 l0_0.length c0_0, .slice (some ad269) l0_1.length c0_1, .slice (some ad274) l0_2.length c0_2] 109 (0, 0)) (bvK BK267.out) hb); have n1_ := Aside0.mk (below_step (by repeat (first | (with_reducible first | exact HB.out | apply bwA | apply bwN | apply bwD | refine below_set ?_ GE267.out) | exact HB.out)) hb); clear BK267; clear HB; have BK267 := n0_; have HB := n1_; clear n0_ n1_; (try clear hb); (try clear hb2); (try clear hk); (try clear hi)))
             go_roundg k2
             case measure => have := HJ2.out; have := HK2.out; omega
             case rel => exact ⟨(wrap64 (x24_2 + 1)), rsd, H', ⟨by have := HJ2.out; have := HK2.out; omega⟩, ⟨bvK BK267.out⟩, ⟨by repeat (first | (with_reducible first | exact HB.out | apply bwA | apply bwN | apply bwD | refine below_set ?_ GE267.out) | exact HB.out)⟩⟩
            ·rw [if_neg c34] at H
             have c34b0 : (t275 == 1) = false := beq_eq_false_iff_ne.mpr c34
             have c34b1 : (t275 != 1) = true := bne_iff_ne.mpr c34
             obtain rfl := Option.some.inj H
             have p269 : 0 ≤ (x24_2 : Int) := oda
             have q269 : x24_2 < (l0_1.length : Int) := oda
             obtain ⟨ad269, e269, hx269_0⟩ := Kd.at_int HR0_1.out x24_2 p269 q269
             cases e269
             try replace hx269_0 := bct HB.out hx269_0
             replace p269 := eq_true p269
             replace q269 := eq_true q269
             go_wp2_with (first | ((with_reducible refine gate_callee (f := 62) rfl ?_); refine goesL_ (some 32) rfl rfl Try.func62 (by kernel_rfl) rfl #[.int .i64 (rd l0_1 x24_2), .int .i64 0, .int .i64 (wrap64 (a1 - 1))] rfl lmB ?_; (with_reducible refine (impl_in.calls (rd l0_1 x24_2) 0 (wrap64 (a1 - 1)) true _ A17.out).mono ?_); rintro e w' ⟨rfl, ⟨nd, rfl⟩⟩; refine ⟨_, rfl, ?_⟩; have hcz37_0 : wr.cell? ⟨gb267, 0, none⟩ = some (.slice A0_0 l0_0.length c0_0) := (blk_cell BK267.out 0).trans rfl; have hcz37_1 : wr.cell? ⟨gb267, 1, none⟩ = some (.slice (some ad269) l0_1.length c0_1) := (blk_cell BK267.out 1).trans rfl; have hcz37_2 : wr.cell? ⟨gb267, 2, none⟩ = some (.slice A0_2 l0_2.length c0_2) := (blk_cell BK267.out 2).trans rfl; have hfz37_0 := blk_frozen BK267.out 0; have hfz37_1 := blk_frozen BK267.out 1; have hfz37_2 := blk_frozen BK267.out 2; have p274 : 0 ≤ (x24_2 : Int) := oda; have q274 : x24_2 < (l0_2.length : Int) := oda; obtain ⟨ad274, A274_0, c274_0, e274, hx274_0, hl274_0, hi274_0⟩ := at_L8 HR0_2.out x24_2 p274 q274; cases e274; replace hx274_0 := bct HB.out hx274_0; have HR274_0 := Aside0.mk hi274_0; have HC274_0 := Aside0.mk hl274_0; clear hi274_0 hl274_0; replace p274 := eq_true p274; replace q274 := eq_true q274) | (go_at_call 127; (with_reducible refine (impl_kindOf.calls k2 _ _ (rd_L8 l0_2 x24_2) a1 t275 _ ?side1 ?side2 A33.out).mono ?_); (case side1 => repeat (first | exact (Kd.C_below HR274_0.out (by repeat (first | (with_reducible first | exact HB.out | apply bwA | apply bwN | apply bwD | refine below_set ?_ GE267.out) | exact HB.out))) | (with_reducible refine Kd.C_alloc ?_ _) | (with_reducible refine Kd.C_drewN ?_ _) | (with_reducible refine Kd.C_drew ?_))); (case side2 => exact HC274_0.out); rintro e w38 ⟨rfl, hb⟩; have n0_ := Aside0.mk (blk_below (g := gb267) (o := .cells #[.slice A0_0 l0_0.length c0_0, .slice (some ad269) l0_1.length c0_1, .slice (some ad274) l0_2.length c0_2] 109 (0, 0)) (bvK BK267.out) hb); have n1_ := Aside0.mk (below_step (by repeat (first | (with_reducible first | exact HB.out | apply bwA | apply bwN | apply bwD | refine below_set ?_ GE267.out) | exact HB.out)) hb); clear BK267; clear HB; have BK267 := n0_; have HB := n1_; clear n0_ n1_; (try clear hb); (try clear hb2); (try clear hk); (try clear hi)))
             go_ret
             exact ⟨ers, by repeat (first | (with_reducible first | exact HB.out | apply bwA | apply bwN | apply bwD | refine below_set ?_ GE267.out) | exact HB.out)⟩
           ·rw [if_neg c32] at H
            exact absurd H (by simp)
         ·replace c18 := Bool.eq_false_iff.mpr c18
          subst c18
          have H1 : (some false) = some r := by rw [if_neg (show ¬ (false = true) by decide)] at H; exact H
          clear H
          have H := H1
          clear H1
          obtain rfl := Option.some.inj H
          have p269 : 0 ≤ (x24_2 : Int) := oda
          have q269 : x24_2 < (l0_1.length : Int) := oda
          obtain ⟨ad269, e269, hx269_0⟩ := Kd.at_int HR0_1.out x24_2 p269 q269
          cases e269
          try replace hx269_0 := bct HB.out hx269_0
          replace p269 := eq_true p269
          replace q269 := eq_true q269
          go_wp2_with (first | ((with_reducible refine gate_callee (f := 62) rfl ?_); refine goesL_ (some 32) rfl rfl Try.func62 (by kernel_rfl) rfl #[.int .i64 (rd l0_1 x24_2), .int .i64 0, .int .i64 (wrap64 (a1 - 1))] rfl lmB ?_; (with_reducible refine (impl_in.calls (rd l0_1 x24_2) 0 (wrap64 (a1 - 1)) false _ A17.out).mono ?_); rintro e w' ⟨rfl, ⟨nd, rfl⟩⟩; refine ⟨_, rfl, ?_⟩))
          go_ret
          exact ⟨ers, by repeat (first | (with_reducible first | exact HB.out | apply bwA | apply bwN | apply bwD | refine below_set ?_ GE267.out) | exact HB.out)⟩
        ·rw [if_neg c16] at H
         exact absurd H (by simp)
       ·rw [if_neg c15] at H
        exact absurd H (by simp)
      ·rw [if_neg c14] at H
       have c14b0 : decide (x24_2 < (l0_1.length : Int)) = false := decide_eq_false c14
       clear c14
       obtain rfl := Option.some.inj H
       (try rw [hl272_0] at c14b0)
       (try rw [hl274_0] at c14b0)
       go_wp2
       go_ret
       exact ⟨ers, by repeat (first | (with_reducible first | exact HB.out | apply bwA | apply bwN | apply bwD | refine below_set ?_ GE267.out) | exact HB.out)⟩

/-! ### impl_SystemValid: function 41 -/
def impl_SystemValid.p1 (l0_0 : List (S99)) (i : Int) : Option Bool := (impl_varOk.f (rd_T99 l0_0 i).f0 (rd_T99 l0_0 i).f1 (rd_T99 l0_0 i).f2).bind fun b => some (!b)
def impl_SystemValid.p2 (k : Nat) (l0_0 : List (S99)) (l0_1 : List (S109)) (i : Int) : Option Bool := (impl_ruleOk.f k (rd_T109 l0_1 i).f0 (rd_T109 l0_1 i).f1 (rd_T109 l0_1 i).f2 (l0_0.length : Int)).bind fun b => some (!b)
theorem impl_SystemValid_pred1 (l0 : List (S99)) (w : World) : ∀ (i : Int), 0 ≤ i → i < l0.length → ∀ b, impl_SystemValid.p1 l0 i = some b → ∀ W, Below w.heap.size w W → Calls Try.prog 87 (#[.agg #[.int .i64 (rd_T99 l0 i).f0, .int .i64 (rd_T99 l0 i).f1, .int .i64 (rd_T99 l0 i).f2]] ++ #[]) W fun e w' => e = .returned (.bool b) ∧ Below W.heap.size W w' := by
 intro i h0 h1 b hb W hW
 unfold impl_SystemValid.p1 at hb
 obtain ⟨b1, hb1, hb2⟩ := Option.bind_eq_some_iff.mp hb
 obtain rfl := Option.some.inj hb2
 have hu_ := Try.underlying99
 have HQ := Aside0.mk hb1
 clear hb hb2 hb1 hW h0 h1
 show Calls Try.prog 87 #[.agg #[.int .i64 (rd_T99 l0 i).f0, .int .i64 (rd_T99 l0 i).f1, .int .i64 (rd_T99 l0 i).f2]] W _
 generalize (rd_T99 l0 i).f0 = x at HQ ⊢
 generalize (rd_T99 l0 i).f1 = y at HQ ⊢
 generalize (rd_T99 l0 i).f2 = z at HQ ⊢
 cases b1
 all_goals
  go_enter Try.func87, Try.ntmps87
  go_wp2_with (first
   | ((with_reducible refine gate_dst (N := 1) rfl ?_); refine box_event ?hg (N := 1) ?hd (cs := #[.int .i64 x, .int .i64 y, .int .i64 z]) (t := 99) ?hr ?_; (case hd => rfl); (case hg => rfl); (case hr => first | (go_simp; done) | (go_simp; rfl)); intro gb hg w3 hbox hb; have BK := Aside0.mk hbox; have HB := Aside0.mk hb; have hc0 : w3.cell? ⟨gb, 0, none⟩ = some (.int .i64 x) := (blk_cell BK.out 0).trans rfl; have hc1 : w3.cell? ⟨gb, 1, none⟩ = some (.int .i64 y) := (blk_cell BK.out 1).trans rfl; have hc2 : w3.cell? ⟨gb, 2, none⟩ = some (.int .i64 z) := (blk_cell BK.out 2).trans rfl; clear hg hbox hb)
   | (go_at_call 88; (with_reducible refine (impl_varOk.calls x y z _ _ HQ.out).mono ?_); rintro e w' ⟨rfl, HB1⟩))
  go_ret
  exact ⟨by first | rfl | simp, below_step HB.out HB1⟩
theorem impl_SystemValid_pred2 (k : Nat) (l0_0 : List (S99)) (l0 : List (S109)) (A0_0 : Option Addr) (c0_0 : Nat) (v : Value) (gb : Nat) (w : World) (BK : w.heap[gb]? = some (.cells #[.slice A0_0 l0_0.length c0_0, v] 58 (0, 0))) :
  ∀ (i : Int), 0 ≤ i → i < l0.length → ∀ b, impl_SystemValid.p2 k l0_0 l0 i = some b → ∀ W, Below w.heap.size w W → ∀ A0 c0 A1 c1 A2 c2, k73.C W A0 (rd_T109 l0 i).f0.length (rd_T109 l0 i).f0 → (rd_T109 l0 i).f0.length ≤ c0 → (Kd.int .i64).C W A1 (rd_T109 l0 i).f1.length (rd_T109 l0 i).f1 → (rd_T109 l0 i).f1.length ≤ c1 → (Kd.slice 73 k73).C W A2 (rd_T109 l0 i).f2.length (rd_T109 l0 i).f2 → (rd_T109 l0 i).f2.length ≤ c2 → Calls Try.prog 90 (#[.agg #[.slice A0 (rd_T109 l0 i).f0.length c0, .slice A1 (rd_T109 l0 i).f1.length c1, .slice A2 (rd_T109 l0 i).f2.length c2]] ++ #[.pointer (some ⟨gb, 0, none⟩)]) W fun e w' => e = .returned (.bool b) ∧ Below W.heap.size W w' := by
 intro i h0 h1 b hb W hW A0 c0 A1 c1 A2 c2 r0 l0_ r1 l1_ r2 l2_
 unfold impl_SystemValid.p2 at hb
 obtain ⟨b1, hb1, hb2⟩ := Option.bind_eq_some_iff.mp hb
 obtain rfl := Option.some.inj hb2
 have hu_ := Try.underlying109
 have hu2_ := Try.underlying58
 have HQ := Aside0.mk hb1
 have BK1 := Aside0.mk (blk_below BK hW)
 have R0 := Aside0.mk r0
 have R1 := Aside0.mk r1
 have R2 := Aside0.mk r2
 have L0 := Aside0.mk l0_
 have L1 := Aside0.mk l1_
 have L2 := Aside0.mk l2_
 have LT_ := Aside0.mk (blk_lt (blk_below BK hW))
 clear hb hb2 hb1 hW h0 h1 BK r0 r1 r2 l0_ l1_ l2_
 show Calls Try.prog 90 #[.agg #[.slice A0 (rd_T109 l0 i).f0.length c0, .slice A1 (rd_T109 l0 i).f1.length c1, .slice A2 (rd_T109 l0 i).f2.length c2], .pointer (some ⟨gb, 0, none⟩)] W _
 generalize (rd_T109 l0 i).f0 = x at HQ R0 L0 ⊢
 generalize (rd_T109 l0 i).f1 = y at HQ R1 L1 ⊢
 generalize (rd_T109 l0 i).f2 = z at HQ R2 L2 ⊢
 cases b1
 all_goals
  go_enter Try.func90, Try.ntmps90
  go_wp2_with (first
   | ((with_reducible refine gate_dst (N := 2) rfl ?_); refine box_event ?hg (N := 2) ?hd (cs := #[.slice A0 x.length c0, .slice A1 y.length c1, .slice A2 z.length c2]) (t := 109) ?hr ?_; (case hd => rfl); (case hg => rfl); (case hr => first | (go_simp; done) | (go_simp; rfl)); intro gb2 hg w3 hbox hb; have BK := Aside0.mk hbox; have HB := Aside0.mk hb; have BK2 := Aside0.mk (blk_below BK1.out hb); have hc0 : w3.cell? ⟨gb2, 0, none⟩ = some (.slice A0 x.length c0) := (blk_cell BK.out 0).trans rfl; have hc1 : w3.cell? ⟨gb2, 1, none⟩ = some (.slice A1 y.length c1) := (blk_cell BK.out 1).trans rfl; have hc2 : w3.cell? ⟨gb2, 2, none⟩ = some (.slice A2 z.length c2) := (blk_cell BK.out 2).trans rfl; have hd0 : w3.cell? ⟨gb, 0, none⟩ = some (.slice A0_0 l0_0.length c0_0) := (blk_cell BK2.out 0).trans rfl; clear hg hbox hb)
   | (go_at_call 91; (with_reducible refine (impl_ruleOk.calls k A0 c0 x A1 c1 y A2 c2 z (l0_0.length : Int) _ _ (Kd.C_below R0.out HB.out) L0.out (Kd.C_below R1.out HB.out) L1.out (Kd.C_below R2.out HB.out) L2.out HQ.out).mono ?_); rintro e w' ⟨rfl, HB1⟩))
  go_ret
  exact ⟨by first | rfl | simp, below_step HB.out HB1⟩
def impl_SystemValid.f (k : Nat) (l0_0 : List (S99)) (l0_1 : List (S109)) : Option Bool :=
 (impl_in.f (l0_0.length : Int) 1 5).bind fun t => if t = true then (if (l0_1.length : Int) > 8 then some false else (Copy.idxO (impl_SystemValid.p1 l0_0) l0_0.length 0).bind fun r1 => if 0 ≤ r1 then some false else (impl_size.f k l0_0).bind fun z => if z > 400 then some false else (Copy.idxO (impl_SystemValid.p2 k l0_0 l0_1) l0_1.length 0).bind fun r2 => some (!(decide (0 ≤ r2)))) else some false
theorem impl_SystemValid.mono : ∀ a0 a1 k, LeO (impl_SystemValid.f k a0 a1) (impl_SystemValid.f (k + 1) a0 a1) := by
 intro a0 a1 k
 unfold impl_SystemValid.f
 exact LeO.bind (LeO.refl _) (fun t => LeO.ite (LeO.ite (LeO.refl _) (LeO.bind (LeO.refl _) (fun r => LeO.ite (LeO.refl _) (LeO.bind (impl_size.mono _ k) (fun z => LeO.ite (LeO.refl _) (LeO.bind (Copy.idxO_le _ _ (fun i => LeO.bind (impl_ruleOk.mono _ _ _ _ k) (fun b => LeO.refl _)) _ _) (fun r => LeO.refl _))))))) (LeO.refl _))
set_option maxHeartbeats 4000000 in
theorem impl_SystemValid.calls (k : Nat) (A0_0 : Option Addr) (c0_0 : Nat) (l0_0 : List (S99)) (A0_1 : Option Addr) (c0_1 : Nat) (l0_1 : List (S109)) (r : Bool) (w : World) (hr0_0 : Kd.C k99 w A0_0 l0_0.length l0_0) (hc0_0 : l0_0.length ≤ c0_0) (hr0_1 : Kd.C k109 w A0_1 l0_1.length l0_1) (hc0_1 : l0_1.length ≤ c0_1) (h : impl_SystemValid.f k l0_0 l0_1 = some r) :
  Calls Try.prog 41 #[.agg #[.slice A0_0 l0_0.length c0_0, .slice A0_1 l0_1.length c0_1]] w fun e w' => e = .returned (.bool r) ∧ Below w.heap.size w w' := by
 have eg1 : ∀ args w, (callFunc 87 args).run Try.prog w = .ok (.enter 87 args) w := enters_of Try.func87 (by kernel_rfl) rfl
 have eg2 : ∀ args w, (callFunc 90 args).run Try.prog w = .ok (.enter 90 args) w := enters_of Try.func90 (by kernel_rfl) rfl
 have hu := Try.underlying58
 have EG1 := eg1
 have EG2 := eg2
 have HR0 := Aside0.mk hr0_0
 have HR1 := Aside0.mk hr0_1
 have HC0 := Aside0.mk hc0_0
 have HC1 := Aside0.mk hc0_1
 unfold impl_SystemValid.f at h
 obtain ⟨t, h1, h⟩ := Option.bind_eq_some_iff.mp h
 have HI := Aside0.mk h1
 clear h1 eg1 eg2 hr0_0 hr0_1 hc0_0 hc0_1
 cases t with
 | false =>
   rw [if_neg (by decide)] at h
   obtain rfl := Option.some.inj h
   clear h
   go_enter Try.func41, Try.ntmps41
   go_wp2_with (first
    | ((with_reducible refine gate_dst (N := 1) rfl ?_); refine box_event ?hg (N := 1) ?hd (cs := #[.slice A0_0 l0_0.length c0_0, .slice A0_1 l0_1.length c0_1]) (t := 58) ?hr ?_; (case hd => rfl); (case hg => rfl); (case hr => first | (go_simp; done) | (go_simp; rfl)); intro gb hg w3 hbox hb; have BK3 := Aside0.mk hbox; have HB3 := Aside0.mk hb; have hc3_0 : w3.cell? ⟨gb, 0, none⟩ = some (.slice A0_0 l0_0.length c0_0) := (blk_cell BK3.out 0).trans rfl; have hc3_1 : w3.cell? ⟨gb, 1, none⟩ = some (.slice A0_1 l0_1.length c0_1) := (blk_cell BK3.out 1).trans rfl; have hf3_0 := blk_frozen BK3.out 0; have hf3_1 := blk_frozen BK3.out 1; clear hg hbox hb)
    | (go_at_call 62; (with_reducible refine (impl_in.calls (l0_0.length : Int) 1 5 false _ HI.out).mono ?_); rintro e w' ⟨rfl, ⟨nd, rfl⟩⟩)
    | (go_at_call 86; refine (impl_Var_86.calls 87 _ EG1 A0_0 c0_0 l0_0 _ r1 _ (Kd.C_drewN (Kd.C_below HR0.out HB3.out) _) (impl_SystemValid_pred1 l0_0 _) HI1.out).mono ?_; rw [HD1.out]; rintro e w5 ⟨rfl, HB_⟩; have BK5 := Aside0.mk (blk_below (blk_drewN BK3.out _) HB_); have HB5 := Aside0.mk (below_step (pw_below_drewN HB3.out _) HB_); have hc5_0 : w5.cell? ⟨gb, 0, none⟩ = some (.slice A0_0 l0_0.length c0_0) := (blk_cell BK5.out 0).trans rfl; have hc5_1 : w5.cell? ⟨gb, 1, none⟩ = some (.slice A0_1 l0_1.length c0_1) := (blk_cell BK5.out 1).trans rfl; have hf5_0 := blk_frozen BK5.out 0; have hf5_1 := blk_frozen BK5.out 1; clear HB_)
    | (go_at_call 80; refine (impl_size.calls k A0_0 c0_0 l0_0 z _ (Kd.C_below HR0.out HB5.out) HC0.out HZ.out).mono ?_; rintro e w6 ⟨rfl, HB_⟩; have BK6 := Aside0.mk (blk_below BK5.out HB_); have HB6 := Aside0.mk (below_step HB5.out HB_); have hc6_0 : w6.cell? ⟨gb, 0, none⟩ = some (.slice A0_0 l0_0.length c0_0) := (blk_cell BK6.out 0).trans rfl; have hc6_1 : w6.cell? ⟨gb, 1, none⟩ = some (.slice A0_1 l0_1.length c0_1) := (blk_cell BK6.out 1).trans rfl; have hf6_0 := blk_frozen BK6.out 0; have hf6_1 := blk_frozen BK6.out 1; clear HB_)
    | (go_at_call 89; refine (impl_Rule_89.calls 90 _ EG2 A0_1 c0_1 l0_1 _ r2 _ (Kd.C_below HR1.out HB6.out) (impl_SystemValid_pred2 k l0_0 l0_1 A0_0 c0_0 _ gb _ BK6.out) HI2.out).mono ?_; rw [HD2.out]; rintro e w7 ⟨rfl, HB_⟩; have HB7 := Aside0.mk (below_step HB6.out HB_); clear HB_))
   go_ret
   exact ⟨rfl, pw_below_drewN HB3.out _⟩
 | true =>
  rw [if_pos rfl] at h
  by_cases c1 : (l0_1.length : Int) > 8
  ·rw [if_pos c1] at h
   obtain rfl := Option.some.inj h
   have c1b : decide ((8 : Int) < (l0_1.length : Int)) = true := decide_eq_true c1
   clear h c1
   go_enter Try.func41, Try.ntmps41
   go_wp2_with (first
    | ((with_reducible refine gate_dst (N := 1) rfl ?_); refine box_event ?hg (N := 1) ?hd (cs := #[.slice A0_0 l0_0.length c0_0, .slice A0_1 l0_1.length c0_1]) (t := 58) ?hr ?_; (case hd => rfl); (case hg => rfl); (case hr => first | (go_simp; done) | (go_simp; rfl)); intro gb hg w3 hbox hb; have BK3 := Aside0.mk hbox; have HB3 := Aside0.mk hb; have hc3_0 : w3.cell? ⟨gb, 0, none⟩ = some (.slice A0_0 l0_0.length c0_0) := (blk_cell BK3.out 0).trans rfl; have hc3_1 : w3.cell? ⟨gb, 1, none⟩ = some (.slice A0_1 l0_1.length c0_1) := (blk_cell BK3.out 1).trans rfl; have hf3_0 := blk_frozen BK3.out 0; have hf3_1 := blk_frozen BK3.out 1; clear hg hbox hb)
    | (go_at_call 62; (with_reducible refine (impl_in.calls (l0_0.length : Int) 1 5 true _ HI.out).mono ?_); rintro e w' ⟨rfl, ⟨nd, rfl⟩⟩)
    | (go_at_call 86; refine (impl_Var_86.calls 87 _ EG1 A0_0 c0_0 l0_0 _ r1 _ (Kd.C_drewN (Kd.C_below HR0.out HB3.out) _) (impl_SystemValid_pred1 l0_0 _) HI1.out).mono ?_; rw [HD1.out]; rintro e w5 ⟨rfl, HB_⟩; have BK5 := Aside0.mk (blk_below (blk_drewN BK3.out _) HB_); have HB5 := Aside0.mk (below_step (pw_below_drewN HB3.out _) HB_); have hc5_0 : w5.cell? ⟨gb, 0, none⟩ = some (.slice A0_0 l0_0.length c0_0) := (blk_cell BK5.out 0).trans rfl; have hc5_1 : w5.cell? ⟨gb, 1, none⟩ = some (.slice A0_1 l0_1.length c0_1) := (blk_cell BK5.out 1).trans rfl; have hf5_0 := blk_frozen BK5.out 0; have hf5_1 := blk_frozen BK5.out 1; clear HB_)
    | (go_at_call 80; refine (impl_size.calls k A0_0 c0_0 l0_0 z _ (Kd.C_below HR0.out HB5.out) HC0.out HZ.out).mono ?_; rintro e w6 ⟨rfl, HB_⟩; have BK6 := Aside0.mk (blk_below BK5.out HB_); have HB6 := Aside0.mk (below_step HB5.out HB_); have hc6_0 : w6.cell? ⟨gb, 0, none⟩ = some (.slice A0_0 l0_0.length c0_0) := (blk_cell BK6.out 0).trans rfl; have hc6_1 : w6.cell? ⟨gb, 1, none⟩ = some (.slice A0_1 l0_1.length c0_1) := (blk_cell BK6.out 1).trans rfl; have hf6_0 := blk_frozen BK6.out 0; have hf6_1 := blk_frozen BK6.out 1; clear HB_)
    | (go_at_call 89; refine (impl_Rule_89.calls 90 _ EG2 A0_1 c0_1 l0_1 _ r2 _ (Kd.C_below HR1.out HB6.out) (impl_SystemValid_pred2 k l0_0 l0_1 A0_0 c0_0 _ gb _ BK6.out) HI2.out).mono ?_; rw [HD2.out]; rintro e w7 ⟨rfl, HB_⟩; have HB7 := Aside0.mk (below_step HB6.out HB_); clear HB_))
   go_ret
   exact ⟨rfl, pw_below_drewN HB3.out _⟩
  rw [if_neg c1] at h
  have c1b : decide ((8 : Int) < (l0_1.length : Int)) = false := decide_eq_false c1
  clear c1
  obtain ⟨r1, hi1, h⟩ := Option.bind_eq_some_iff.mp h
  have HI1 := Aside0.mk hi1
  clear hi1
  by_cases c2 : 0 ≤ r1
  ·rw [if_pos c2] at h
   obtain rfl := Option.some.inj h
   have HD1 := Aside0.mk (decide_eq_true c2)
   clear h c2
   go_enter Try.func41, Try.ntmps41
   go_wp2_with (first
    | ((with_reducible refine gate_dst (N := 1) rfl ?_); refine box_event ?hg (N := 1) ?hd (cs := #[.slice A0_0 l0_0.length c0_0, .slice A0_1 l0_1.length c0_1]) (t := 58) ?hr ?_; (case hd => rfl); (case hg => rfl); (case hr => first | (go_simp; done) | (go_simp; rfl)); intro gb hg w3 hbox hb; have BK3 := Aside0.mk hbox; have HB3 := Aside0.mk hb; have hc3_0 : w3.cell? ⟨gb, 0, none⟩ = some (.slice A0_0 l0_0.length c0_0) := (blk_cell BK3.out 0).trans rfl; have hc3_1 : w3.cell? ⟨gb, 1, none⟩ = some (.slice A0_1 l0_1.length c0_1) := (blk_cell BK3.out 1).trans rfl; have hf3_0 := blk_frozen BK3.out 0; have hf3_1 := blk_frozen BK3.out 1; clear hg hbox hb)
    | (go_at_call 62; (with_reducible refine (impl_in.calls (l0_0.length : Int) 1 5 true _ HI.out).mono ?_); rintro e w' ⟨rfl, ⟨nd, rfl⟩⟩)
    | (go_at_call 86; refine (impl_Var_86.calls 87 _ EG1 A0_0 c0_0 l0_0 _ r1 _ (Kd.C_drewN (Kd.C_below HR0.out HB3.out) _) (impl_SystemValid_pred1 l0_0 _) HI1.out).mono ?_; rw [HD1.out]; rintro e w5 ⟨rfl, HB_⟩; have BK5 := Aside0.mk (blk_below (blk_drewN BK3.out _) HB_); have HB5 := Aside0.mk (below_step (pw_below_drewN HB3.out _) HB_); have hc5_0 : w5.cell? ⟨gb, 0, none⟩ = some (.slice A0_0 l0_0.length c0_0) := (blk_cell BK5.out 0).trans rfl; have hc5_1 : w5.cell? ⟨gb, 1, none⟩ = some (.slice A0_1 l0_1.length c0_1) := (blk_cell BK5.out 1).trans rfl; have hf5_0 := blk_frozen BK5.out 0; have hf5_1 := blk_frozen BK5.out 1; clear HB_)
    | (go_at_call 80; refine (impl_size.calls k A0_0 c0_0 l0_0 z _ (Kd.C_below HR0.out HB5.out) HC0.out HZ.out).mono ?_; rintro e w6 ⟨rfl, HB_⟩; have BK6 := Aside0.mk (blk_below BK5.out HB_); have HB6 := Aside0.mk (below_step HB5.out HB_); have hc6_0 : w6.cell? ⟨gb, 0, none⟩ = some (.slice A0_0 l0_0.length c0_0) := (blk_cell BK6.out 0).trans rfl; have hc6_1 : w6.cell? ⟨gb, 1, none⟩ = some (.slice A0_1 l0_1.length c0_1) := (blk_cell BK6.out 1).trans rfl; have hf6_0 := blk_frozen BK6.out 0; have hf6_1 := blk_frozen BK6.out 1; clear HB_)
    | (go_at_call 89; refine (impl_Rule_89.calls 90 _ EG2 A0_1 c0_1 l0_1 _ r2 _ (Kd.C_below HR1.out HB6.out) (impl_SystemValid_pred2 k l0_0 l0_1 A0_0 c0_0 _ gb _ BK6.out) HI2.out).mono ?_; rw [HD2.out]; rintro e w7 ⟨rfl, HB_⟩; have HB7 := Aside0.mk (below_step HB6.out HB_); clear HB_))
   go_ret
   exact ⟨rfl, HB5.out⟩
  rw [if_neg c2] at h
  have HD1 := Aside0.mk (decide_eq_false c2)
  clear c2
  obtain ⟨z, hz, h⟩ := Option.bind_eq_some_iff.mp h
  have HZ := Aside0.mk hz
  clear hz
  by_cases c3 : z > 400
  ·rw [if_pos c3] at h
   obtain rfl := Option.some.inj h
   have c3b : decide ((400 : Int) < z) = true := decide_eq_true c3
   clear h c3
   go_enter Try.func41, Try.ntmps41
   go_wp2_with (first
    | ((with_reducible refine gate_dst (N := 1) rfl ?_); refine box_event ?hg (N := 1) ?hd (cs := #[.slice A0_0 l0_0.length c0_0, .slice A0_1 l0_1.length c0_1]) (t := 58) ?hr ?_; (case hd => rfl); (case hg => rfl); (case hr => first | (go_simp; done) | (go_simp; rfl)); intro gb hg w3 hbox hb; have BK3 := Aside0.mk hbox; have HB3 := Aside0.mk hb; have hc3_0 : w3.cell? ⟨gb, 0, none⟩ = some (.slice A0_0 l0_0.length c0_0) := (blk_cell BK3.out 0).trans rfl; have hc3_1 : w3.cell? ⟨gb, 1, none⟩ = some (.slice A0_1 l0_1.length c0_1) := (blk_cell BK3.out 1).trans rfl; have hf3_0 := blk_frozen BK3.out 0; have hf3_1 := blk_frozen BK3.out 1; clear hg hbox hb)
    | (go_at_call 62; (with_reducible refine (impl_in.calls (l0_0.length : Int) 1 5 true _ HI.out).mono ?_); rintro e w' ⟨rfl, ⟨nd, rfl⟩⟩)
    | (go_at_call 86; refine (impl_Var_86.calls 87 _ EG1 A0_0 c0_0 l0_0 _ r1 _ (Kd.C_drewN (Kd.C_below HR0.out HB3.out) _) (impl_SystemValid_pred1 l0_0 _) HI1.out).mono ?_; rw [HD1.out]; rintro e w5 ⟨rfl, HB_⟩; have BK5 := Aside0.mk (blk_below (blk_drewN BK3.out _) HB_); have HB5 := Aside0.mk (below_step (pw_below_drewN HB3.out _) HB_); have hc5_0 : w5.cell? ⟨gb, 0, none⟩ = some (.slice A0_0 l0_0.length c0_0) := (blk_cell BK5.out 0).trans rfl; have hc5_1 : w5.cell? ⟨gb, 1, none⟩ = some (.slice A0_1 l0_1.length c0_1) := (blk_cell BK5.out 1).trans rfl; have hf5_0 := blk_frozen BK5.out 0; have hf5_1 := blk_frozen BK5.out 1; clear HB_)
    | (go_at_call 80; refine (impl_size.calls k A0_0 c0_0 l0_0 z _ (Kd.C_below HR0.out HB5.out) HC0.out HZ.out).mono ?_; rintro e w6 ⟨rfl, HB_⟩; have BK6 := Aside0.mk (blk_below BK5.out HB_); have HB6 := Aside0.mk (below_step HB5.out HB_); have hc6_0 : w6.cell? ⟨gb, 0, none⟩ = some (.slice A0_0 l0_0.length c0_0) := (blk_cell BK6.out 0).trans rfl; have hc6_1 : w6.cell? ⟨gb, 1, none⟩ = some (.slice A0_1 l0_1.length c0_1) := (blk_cell BK6.out 1).trans rfl; have hf6_0 := blk_frozen BK6.out 0; have hf6_1 := blk_frozen BK6.out 1; clear HB_)
    | (go_at_call 89; refine (impl_Rule_89.calls 90 _ EG2 A0_1 c0_1 l0_1 _ r2 _ (Kd.C_below HR1.out HB6.out) (impl_SystemValid_pred2 k l0_0 l0_1 A0_0 c0_0 _ gb _ BK6.out) HI2.out).mono ?_; rw [HD2.out]; rintro e w7 ⟨rfl, HB_⟩; have HB7 := Aside0.mk (below_step HB6.out HB_); clear HB_))
   go_ret
   exact ⟨rfl, HB6.out⟩
  rw [if_neg c3] at h
  have c3b : decide ((400 : Int) < z) = false := decide_eq_false c3
  clear c3
  obtain ⟨r2, hi2, h⟩ := Option.bind_eq_some_iff.mp h
  have HI2 := Aside0.mk hi2
  clear hi2
  obtain rfl := Option.some.inj h
  clear h
  generalize hb : decide (0 ≤ r2) = b
  have HD2 := Aside0.mk hb
  clear hb
  cases b
  all_goals
   go_enter Try.func41, Try.ntmps41
   go_wp2_with (first
    | ((with_reducible refine gate_dst (N := 1) rfl ?_); refine box_event ?hg (N := 1) ?hd (cs := #[.slice A0_0 l0_0.length c0_0, .slice A0_1 l0_1.length c0_1]) (t := 58) ?hr ?_; (case hd => rfl); (case hg => rfl); (case hr => first | (go_simp; done) | (go_simp; rfl)); intro gb hg w3 hbox hb; have BK3 := Aside0.mk hbox; have HB3 := Aside0.mk hb; have hc3_0 : w3.cell? ⟨gb, 0, none⟩ = some (.slice A0_0 l0_0.length c0_0) := (blk_cell BK3.out 0).trans rfl; have hc3_1 : w3.cell? ⟨gb, 1, none⟩ = some (.slice A0_1 l0_1.length c0_1) := (blk_cell BK3.out 1).trans rfl; have hf3_0 := blk_frozen BK3.out 0; have hf3_1 := blk_frozen BK3.out 1; clear hg hbox hb)
    | (go_at_call 62; (with_reducible refine (impl_in.calls (l0_0.length : Int) 1 5 true _ HI.out).mono ?_); rintro e w' ⟨rfl, ⟨nd, rfl⟩⟩)
    | (go_at_call 86; refine (impl_Var_86.calls 87 _ EG1 A0_0 c0_0 l0_0 _ r1 _ (Kd.C_drewN (Kd.C_below HR0.out HB3.out) _) (impl_SystemValid_pred1 l0_0 _) HI1.out).mono ?_; rw [HD1.out]; rintro e w5 ⟨rfl, HB_⟩; have BK5 := Aside0.mk (blk_below (blk_drewN BK3.out _) HB_); have HB5 := Aside0.mk (below_step (pw_below_drewN HB3.out _) HB_); have hc5_0 : w5.cell? ⟨gb, 0, none⟩ = some (.slice A0_0 l0_0.length c0_0) := (blk_cell BK5.out 0).trans rfl; have hc5_1 : w5.cell? ⟨gb, 1, none⟩ = some (.slice A0_1 l0_1.length c0_1) := (blk_cell BK5.out 1).trans rfl; have hf5_0 := blk_frozen BK5.out 0; have hf5_1 := blk_frozen BK5.out 1; clear HB_)
    | (go_at_call 80; refine (impl_size.calls k A0_0 c0_0 l0_0 z _ (Kd.C_below HR0.out HB5.out) HC0.out HZ.out).mono ?_; rintro e w6 ⟨rfl, HB_⟩; have BK6 := Aside0.mk (blk_below BK5.out HB_); have HB6 := Aside0.mk (below_step HB5.out HB_); have hc6_0 : w6.cell? ⟨gb, 0, none⟩ = some (.slice A0_0 l0_0.length c0_0) := (blk_cell BK6.out 0).trans rfl; have hc6_1 : w6.cell? ⟨gb, 1, none⟩ = some (.slice A0_1 l0_1.length c0_1) := (blk_cell BK6.out 1).trans rfl; have hf6_0 := blk_frozen BK6.out 0; have hf6_1 := blk_frozen BK6.out 1; clear HB_)
    | (go_at_call 89; refine (impl_Rule_89.calls 90 _ EG2 A0_1 c0_1 l0_1 _ r2 _ (Kd.C_below HR1.out HB6.out) (impl_SystemValid_pred2 k l0_0 l0_1 A0_0 c0_0 _ gb _ BK6.out) HI2.out).mono ?_; rw [HD2.out]; rintro e w7 ⟨rfl, HB_⟩; have HB7 := Aside0.mk (below_step HB6.out HB_); clear HB_))
   go_ret
   exact ⟨rfl, HB7.out⟩

/-! ### impl_SizeOf: function 36 -/
def impl_SizeOf.f (k : Nat) (l0_0 : List (S99)) (l0_1 : List (S109)) : Option (Int) := (impl_SystemValid.f k l0_0 l0_1).bind fun t277 => (if t277 = true then ((impl_size.f k l0_0).bind fun t278 => (some t278)) else (some 0))
theorem impl_SizeOf.mono : ∀ a0 a1 k, LeO (impl_SizeOf.f k a0 a1) (impl_SizeOf.f (k + 1) a0 a1) := by
 intro a0 a1 k
 unfold impl_SizeOf.f
 repeat' first
   | (with_reducible exact impl_SystemValid.mono _ _ _)
   | (with_reducible exact impl_size.mono _ _)
   | (with_reducible exact LeO.refl _)
   | (with_reducible exact LeO.none _)
   | (with_reducible refine LeO.ite ?_ ?_)
   | (with_reducible refine LeO.bind ?_ (fun _ => ?_))
   | exact impl_SystemValid.mono _ _ _
   | exact impl_size.mono _ _
   | exact LeO.none _
   | refine LeO.ite ?_ ?_
   | refine LeO.bind ?_ (fun _ => ?_)
set_option maxHeartbeats 8000000 in
set_option maxRecDepth 100000 in
theorem impl_SizeOf.calls (k : Nat) (A0_0 : Option Addr) (c0_0 : Nat) (l0_0 : List (S99)) (A0_1 : Option Addr) (c0_1 : Nat) (l0_1 : List (S109)) (r : Int) (w : World) (hr0_0 : Kd.C k99 w A0_0 l0_0.length l0_0) (hc0_0 : l0_0.length ≤ c0_0) (hr0_1 : Kd.C k109 w A0_1 l0_1.length l0_1) (hc0_1 : l0_1.length ≤ c0_1) (h : impl_SizeOf.f k l0_0 l0_1 = some r) :
  Calls Try.prog 36 #[.agg #[.slice A0_0 l0_0.length c0_0, .slice A0_1 l0_1.length c0_1]] w fun e w' => e = .returned (.int .i64 r) ∧ Below w.heap.size w w' := by
 have hu58 := Try.underlying58
 have HR0_0 := Aside0.mk hr0_0
 have HC0_0 := Aside0.mk hc0_0
 clear hr0_0 hc0_0
 have HR0_1 := Aside0.mk hr0_1
 have HC0_1 := Aside0.mk hc0_1
 clear hr0_1 hc0_1
 have HB := Aside0.mk (Below.refl w.heap.size w)
 have H : ((impl_SystemValid.f k l0_0 l0_1).bind fun t277 => (if t277 = true then ((impl_size.f k l0_0).bind fun t278 => (some t278)) else (some 0))) = some r := h
 clear h
 replace H := Option.bind_eq_some_iff.mp H
 obtain ⟨t277, A20, H⟩ := H
 replace H : (if t277 = true then ((impl_size.f k l0_0).bind fun t278 => (some t278)) else (some 0)) = some r := H
 have A2 := Aside0.mk A20
 clear A20
 by_cases c3 : t277 = true
 ·subst c3
  have H1 : ((impl_size.f k l0_0).bind fun t278 => (some t278)) = some r := by rw [if_pos rfl] at H; exact H
  clear H
  have H := H1
  clear H1
  replace H := Option.bind_eq_some_iff.mp H
  obtain ⟨t278, A40, H⟩ := H
  replace H : (some t278) = some r := H
  have A4 := Aside0.mk A40
  clear A40
  obtain rfl := Option.some.inj H
  go_enter Try.func36, Try.ntmps36
  go_wp2_with (first | ((with_reducible refine gate_dst (N := 1) rfl ?_); refine box_event ?hg (N := 1) ?hd (cs := #[.slice A0_0 l0_0.length c0_0, .slice A0_1 l0_1.length c0_1]) (t := 58) ?hr ?_; (case hd => rfl); (case hg => rfl); (case hr => first | (go_simp; done) | (go_simp; rfl)); intro gb276 hg w5 hbox hb; have n0_ := Aside0.mk (below_step (by repeat (first | (with_reducible first | exact HB.out | apply bwA | apply bwN | apply bwD) | exact HB.out)) hb); have n1_ := Aside0.mk (hbox); have n2_ := Aside0.mk ((by rw [hg]; exact (below_size (by repeat (first | (with_reducible first | exact HB.out | apply bwA | apply bwN | apply bwD) | exact HB.out))) : w.heap.size ≤ gb276)); have n3_ := Aside0.mk ((by rw [hg]; exact (below_size (by repeat (first | (with_reducible first | exact HB.out | apply bwA | apply bwN | apply bwD) | exact HB.out))) : w.heap.size ≤ gb276)); clear HB; have HB := n0_; have BK276 := n1_; have GW276 := n2_; have GE276 := n3_; clear n0_ n1_ n2_ n3_; clear hb hbox hg; have hcz6_0 : w5.cell? ⟨gb276, 0, none⟩ = some (.slice A0_0 l0_0.length c0_0) := (blk_cell BK276.out 0).trans rfl; have hcz6_1 : w5.cell? ⟨gb276, 1, none⟩ = some (.slice A0_1 l0_1.length c0_1) := (blk_cell BK276.out 1).trans rfl; have hfz6_0 := blk_frozen BK276.out 0; have hfz6_1 := blk_frozen BK276.out 1) | ((with_reducible refine gate_callee (f := 41) rfl ?_); refine goesL_ (some 4) rfl rfl Try.func41 (by kernel_rfl) rfl #[.agg #[.slice A0_0 l0_0.length c0_0, .slice A0_1 l0_1.length c0_1]] rfl lmB ?_; (with_reducible refine (impl_SystemValid.calls k _ _ l0_0 _ _ l0_1 true _ ?side1 ?side2 ?side3 ?side4 A2.out).mono ?_); (case side1 => repeat (first | exact (Kd.C_below HR0_0.out HB.out) | (with_reducible refine Kd.C_alloc ?_ _) | (with_reducible refine Kd.C_drewN ?_ _) | (with_reducible refine Kd.C_drew ?_))); (case side2 => exact HC0_0.out); (case side3 => repeat (first | exact (Kd.C_below HR0_1.out HB.out) | (with_reducible refine Kd.C_alloc ?_ _) | (with_reducible refine Kd.C_drewN ?_ _) | (with_reducible refine Kd.C_drew ?_))); (case side4 => exact HC0_1.out); rintro e w7 ⟨rfl, hb⟩; refine ⟨_, rfl, ?_⟩; have n0_ := Aside0.mk (blk_below (g := gb276) (o := .cells #[.slice A0_0 l0_0.length c0_0, .slice A0_1 l0_1.length c0_1] 58 (0, 0)) (bvK BK276.out) hb); have n1_ := Aside0.mk (below_step (by repeat (first | (with_reducible first | exact HB.out | apply bwA | apply bwN | apply bwD | refine below_set ?_ GE276.out) | exact HB.out)) hb); clear BK276; clear HB; have BK276 := n0_; have HB := n1_; clear n0_ n1_; (try clear hb); (try clear hb2); (try clear hk); (try clear hi); have hcz8_0 : w7.cell? ⟨gb276, 0, none⟩ = some (.slice A0_0 l0_0.length c0_0) := (blk_cell BK276.out 0).trans rfl; have hcz8_1 : w7.cell? ⟨gb276, 1, none⟩ = some (.slice A0_1 l0_1.length c0_1) := (blk_cell BK276.out 1).trans rfl; have hfz8_0 := blk_frozen BK276.out 0; have hfz8_1 := blk_frozen BK276.out 1) | ((with_reducible refine gate_callee (f := 80) rfl ?_); refine goesL_ (some 8) rfl rfl Try.func80 (by kernel_rfl) rfl #[.slice A0_0 l0_0.length c0_0] rfl lmB ?_; (with_reducible refine (impl_size.calls k _ _ l0_0 t278 _ ?side1 ?side2 A4.out).mono ?_); (case side1 => repeat (first | exact (Kd.C_below HR0_0.out HB.out) | (with_reducible refine Kd.C_alloc ?_ _) | (with_reducible refine Kd.C_drewN ?_ _) | (with_reducible refine Kd.C_drew ?_))); (case side2 => exact HC0_0.out); rintro e w9 ⟨rfl, hb⟩; refine ⟨_, rfl, ?_⟩; have n0_ := Aside0.mk (blk_below (g := gb276) (o := .cells #[.slice A0_0 l0_0.length c0_0, .slice A0_1 l0_1.length c0_1] 58 (0, 0)) (bvK BK276.out) hb); have n1_ := Aside0.mk (below_step (by repeat (first | (with_reducible first | exact HB.out | apply bwA | apply bwN | apply bwD | refine below_set ?_ GE276.out) | exact HB.out)) hb); clear BK276; clear HB; have BK276 := n0_; have HB := n1_; clear n0_ n1_; (try clear hb); (try clear hb2); (try clear hk); (try clear hi)))
  go_ret
  exact ⟨ers, by repeat (first | (with_reducible first | exact HB.out | apply bwA | apply bwN | apply bwD | refine below_set ?_ GE276.out) | exact HB.out)⟩
 ·replace c3 := Bool.eq_false_iff.mpr c3
  subst c3
  have H1 : (some 0) = some r := by rw [if_neg (show ¬ (false = true) by decide)] at H; exact H
  clear H
  have H := H1
  clear H1
  obtain rfl := Option.some.inj H
  go_enter Try.func36, Try.ntmps36
  go_wp2_with (first | ((with_reducible refine gate_dst (N := 1) rfl ?_); refine box_event ?hg (N := 1) ?hd (cs := #[.slice A0_0 l0_0.length c0_0, .slice A0_1 l0_1.length c0_1]) (t := 58) ?hr ?_; (case hd => rfl); (case hg => rfl); (case hr => first | (go_simp; done) | (go_simp; rfl)); intro gb276 hg w10 hbox hb; have n0_ := Aside0.mk (below_step (by repeat (first | (with_reducible first | exact HB.out | apply bwA | apply bwN | apply bwD) | exact HB.out)) hb); have n1_ := Aside0.mk (hbox); have n2_ := Aside0.mk ((by rw [hg]; exact (below_size (by repeat (first | (with_reducible first | exact HB.out | apply bwA | apply bwN | apply bwD) | exact HB.out))) : w.heap.size ≤ gb276)); have n3_ := Aside0.mk ((by rw [hg]; exact (below_size (by repeat (first | (with_reducible first | exact HB.out | apply bwA | apply bwN | apply bwD) | exact HB.out))) : w.heap.size ≤ gb276)); clear HB; have HB := n0_; have BK276 := n1_; have GW276 := n2_; have GE276 := n3_; clear n0_ n1_ n2_ n3_; clear hb hbox hg; have hcz11_0 : w10.cell? ⟨gb276, 0, none⟩ = some (.slice A0_0 l0_0.length c0_0) := (blk_cell BK276.out 0).trans rfl; have hcz11_1 : w10.cell? ⟨gb276, 1, none⟩ = some (.slice A0_1 l0_1.length c0_1) := (blk_cell BK276.out 1).trans rfl; have hfz11_0 := blk_frozen BK276.out 0; have hfz11_1 := blk_frozen BK276.out 1) | ((with_reducible refine gate_callee (f := 41) rfl ?_); refine goesL_ (some 4) rfl rfl Try.func41 (by kernel_rfl) rfl #[.agg #[.slice A0_0 l0_0.length c0_0, .slice A0_1 l0_1.length c0_1]] rfl lmB ?_; (with_reducible refine (impl_SystemValid.calls k _ _ l0_0 _ _ l0_1 false _ ?side1 ?side2 ?side3 ?side4 A2.out).mono ?_); (case side1 => repeat (first | exact (Kd.C_below HR0_0.out HB.out) | (with_reducible refine Kd.C_alloc ?_ _) | (with_reducible refine Kd.C_drewN ?_ _) | (with_reducible refine Kd.C_drew ?_))); (case side2 => exact HC0_0.out); (case side3 => repeat (first | exact (Kd.C_below HR0_1.out HB.out) | (with_reducible refine Kd.C_alloc ?_ _) | (with_reducible refine Kd.C_drewN ?_ _) | (with_reducible refine Kd.C_drew ?_))); (case side4 => exact HC0_1.out); rintro e w12 ⟨rfl, hb⟩; refine ⟨_, rfl, ?_⟩; have n0_ := Aside0.mk (blk_below (g := gb276) (o := .cells #[.slice A0_0 l0_0.length c0_0, .slice A0_1 l0_1.length c0_1] 58 (0, 0)) (bvK BK276.out) hb); have n1_ := Aside0.mk (below_step (by repeat (first | (with_reducible first | exact HB.out | apply bwA | apply bwN | apply bwD | refine below_set ?_ GE276.out) | exact HB.out)) hb); clear BK276; clear HB; have BK276 := n0_; have HB := n1_; clear n0_ n1_; (try clear hb); (try clear hb2); (try clear hk); (try clear hi)))
  go_ret
  exact ⟨ers, by repeat (first | (with_reducible first | exact HB.out | apply bwA | apply bwN | apply bwD | refine below_set ?_ GE276.out) | exact HB.out)⟩

/-! ### laws_eqVar: function 121 -/
def laws_eqVar.f (a0_0 : Int) (a0_1 : Int) (a0_2 : Int) (a1_0 : Int) (a1_1 : Int) (a1_2 : Int) : Option (Bool) := if a0_0 = a1_0 then (if a0_1 = a1_1 then (if a0_2 = a1_2 then (some true) else (some false)) else (some false)) else (some false)
set_option maxHeartbeats 8000000 in
set_option maxRecDepth 100000 in
theorem laws_eqVar.calls (a0_0 : Int) (a0_1 : Int) (a0_2 : Int) (a1_0 : Int) (a1_1 : Int) (a1_2 : Int) (r : Bool) (w : World) (h : laws_eqVar.f a0_0 a0_1 a0_2 a1_0 a1_1 a1_2 = some r) :
  Calls Try.prog 121 #[.agg #[.int .i64 a0_0, .int .i64 a0_1, .int .i64 a0_2], .agg #[.int .i64 a1_0, .int .i64 a1_1, .int .i64 a1_2]] w fun e w' => e = .returned (.bool r) ∧ Below w.heap.size w w' := by
 have hu99 := Try.underlying99
 have HB := Aside0.mk (Below.refl w.heap.size w)
 have H : (if a0_0 = a1_0 then (if a0_1 = a1_1 then (if a0_2 = a1_2 then (some true) else (some false)) else (some false)) else (some false)) = some r := h
 clear h
 by_cases c3 : a0_0 = a1_0
 ·rw [if_pos c3] at H
  have c3b0 : (a0_0 == a1_0) = true := beq_iff_eq.mpr c3
  have c3b1 : (a0_0 != a1_0) = false := bne_eq_false_iff_eq.mpr c3
  clear c3
  by_cases c4 : a0_1 = a1_1
  ·rw [if_pos c4] at H
   have c4b0 : (a0_1 == a1_1) = true := beq_iff_eq.mpr c4
   have c4b1 : (a0_1 != a1_1) = false := bne_eq_false_iff_eq.mpr c4
   clear c4
   by_cases c5 : a0_2 = a1_2
   ·rw [if_pos c5] at H
    have c5b0 : (a0_2 == a1_2) = true := beq_iff_eq.mpr c5
    have c5b1 : (a0_2 != a1_2) = false := bne_eq_false_iff_eq.mpr c5
    clear c5
    obtain rfl := Option.some.inj H
    go_enter Try.func121, Try.ntmps121
    go_wp2_with (first | ((with_reducible refine gate_dst (N := 2) rfl ?_); refine box_event ?hg (N := 2) ?hd (cs := #[.int .i64 a0_0, .int .i64 a0_1, .int .i64 a0_2]) (t := 99) ?hr ?_; (case hd => rfl); (case hg => rfl); (case hr => first | (go_simp; done) | (go_simp; rfl)); intro gb279 hg w6 hbox hb; have n0_ := Aside0.mk (below_step (by repeat (first | (with_reducible first | exact HB.out | apply bwA | apply bwN | apply bwD) | exact HB.out)) hb); have n1_ := Aside0.mk (hbox); have n2_ := Aside0.mk ((by rw [hg]; exact (below_size (by repeat (first | (with_reducible first | exact HB.out | apply bwA | apply bwN | apply bwD) | exact HB.out))) : w.heap.size ≤ gb279)); have n3_ := Aside0.mk ((by rw [hg]; exact (below_size (by repeat (first | (with_reducible first | exact HB.out | apply bwA | apply bwN | apply bwD) | exact HB.out))) : w.heap.size ≤ gb279)); clear HB; have HB := n0_; have BK279 := n1_; have GW279 := n2_; have GE279 := n3_; clear n0_ n1_ n2_ n3_; clear hb hbox hg) | ((with_reducible refine gate_dst (N := 3) rfl ?_); refine box_event ?hg (N := 3) ?hd (cs := #[.int .i64 a1_0, .int .i64 a1_1, .int .i64 a1_2]) (t := 99) ?hr ?_; (case hd => rfl); (case hg => rfl); (case hr => first | (go_simp; done) | (go_simp; rfl)); intro gb280 hg w7 hbox hb; have n0_ := Aside0.mk (blk_below (g := gb279) (o := .cells #[.int .i64 a0_0, .int .i64 a0_1, .int .i64 a0_2] 99 (0, 0)) (bvK BK279.out) hb); have n1_ := Aside0.mk (below_step (by repeat (first | (with_reducible first | exact HB.out | apply bwA | apply bwN | apply bwD | refine below_set ?_ GE279.out) | exact HB.out)) hb); have n2_ := Aside0.mk (hbox); have n3_ := Aside0.mk ((by rw [hg]; exact (below_size (by repeat (first | (with_reducible first | exact HB.out | apply bwA | apply bwN | apply bwD | refine below_set ?_ GE279.out) | exact HB.out))) : w.heap.size ≤ gb280)); have n4_ := Aside0.mk ((by rw [hg]; exact (below_size (by repeat (first | (with_reducible first | exact HB.out | apply bwA | apply bwN | apply bwD | refine below_set ?_ GE279.out) | exact HB.out))) : w.heap.size ≤ gb280)); have n5_ := Aside0.mk ((by rw [hg]; exact Nat.ne_of_lt (blk_lt (g := gb279) (o := .cells #[.int .i64 a0_0, .int .i64 a0_1, .int .i64 a0_2] 99 (0, 0)) (bvK BK279.out)) : gb279 ≠ gb280)); have n6_ := Aside0.mk ((by rw [hg]; exact Nat.ne_of_gt (blk_lt (g := gb279) (o := .cells #[.int .i64 a0_0, .int .i64 a0_1, .int .i64 a0_2] 99 (0, 0)) (bvK BK279.out)) : gb280 ≠ gb279)); clear BK279; clear HB; have BK279 := n0_; have HB := n1_; have BK280 := n2_; have GW280 := n3_; have GE280 := n4_; have NB279_280 := n5_; have NB280_279 := n6_; clear n0_ n1_ n2_ n3_ n4_ n5_ n6_; clear hb hbox hg; have hnb8 := NB279_280.out; have hnc8 := NB280_279.out; have hcz9_0 : w7.cell? ⟨gb279, 0, none⟩ = some (.int .i64 a0_0) := (blk_cell BK279.out 0).trans rfl; have hcz9_1 : w7.cell? ⟨gb279, 1, none⟩ = some (.int .i64 a0_1) := (blk_cell BK279.out 1).trans rfl; have hcz9_2 : w7.cell? ⟨gb279, 2, none⟩ = some (.int .i64 a0_2) := (blk_cell BK279.out 2).trans rfl; have hfz9_0 := blk_frozen BK279.out 0; have hfz9_1 := blk_frozen BK279.out 1; have hfz9_2 := blk_frozen BK279.out 2; have hcz10_0 : w7.cell? ⟨gb280, 0, none⟩ = some (.int .i64 a1_0) := (blk_cell BK280.out 0).trans rfl; have hcz10_1 : w7.cell? ⟨gb280, 1, none⟩ = some (.int .i64 a1_1) := (blk_cell BK280.out 1).trans rfl; have hcz10_2 : w7.cell? ⟨gb280, 2, none⟩ = some (.int .i64 a1_2) := (blk_cell BK280.out 2).trans rfl; have hfz10_0 := blk_frozen BK280.out 0; have hfz10_1 := blk_frozen BK280.out 1; have hfz10_2 := blk_frozen BK280.out 2))
    go_ret
    exact ⟨ers, by repeat (first | (with_reducible first | exact HB.out | apply bwA | apply bwN | apply bwD | refine below_set ?_ GE279.out | refine below_set ?_ GE280.out) | exact HB.out)⟩
   ·rw [if_neg c5] at H
    have c5b0 : (a0_2 == a1_2) = false := beq_eq_false_iff_ne.mpr c5
    have c5b1 : (a0_2 != a1_2) = true := bne_iff_ne.mpr c5
    obtain rfl := Option.some.inj H
    go_enter Try.func121, Try.ntmps121
    go_wp2_with (first | ((with_reducible refine gate_dst (N := 2) rfl ?_); refine box_event ?hg (N := 2) ?hd (cs := #[.int .i64 a0_0, .int .i64 a0_1, .int .i64 a0_2]) (t := 99) ?hr ?_; (case hd => rfl); (case hg => rfl); (case hr => first | (go_simp; done) | (go_simp; rfl)); intro gb279 hg w11 hbox hb; have n0_ := Aside0.mk (below_step (by repeat (first | (with_reducible first | exact HB.out | apply bwA | apply bwN | apply bwD) | exact HB.out)) hb); have n1_ := Aside0.mk (hbox); have n2_ := Aside0.mk ((by rw [hg]; exact (below_size (by repeat (first | (with_reducible first | exact HB.out | apply bwA | apply bwN | apply bwD) | exact HB.out))) : w.heap.size ≤ gb279)); have n3_ := Aside0.mk ((by rw [hg]; exact (below_size (by repeat (first | (with_reducible first | exact HB.out | apply bwA | apply bwN | apply bwD) | exact HB.out))) : w.heap.size ≤ gb279)); clear HB; have HB := n0_; have BK279 := n1_; have GW279 := n2_; have GE279 := n3_; clear n0_ n1_ n2_ n3_; clear hb hbox hg) | ((with_reducible refine gate_dst (N := 3) rfl ?_); refine box_event ?hg (N := 3) ?hd (cs := #[.int .i64 a1_0, .int .i64 a1_1, .int .i64 a1_2]) (t := 99) ?hr ?_; (case hd => rfl); (case hg => rfl); (case hr => first | (go_simp; done) | (go_simp; rfl)); intro gb280 hg w12 hbox hb; have n0_ := Aside0.mk (blk_below (g := gb279) (o := .cells #[.int .i64 a0_0, .int .i64 a0_1, .int .i64 a0_2] 99 (0, 0)) (bvK BK279.out) hb); have n1_ := Aside0.mk (below_step (by repeat (first | (with_reducible first | exact HB.out | apply bwA | apply bwN | apply bwD | refine below_set ?_ GE279.out) | exact HB.out)) hb); have n2_ := Aside0.mk (hbox); have n3_ := Aside0.mk ((by rw [hg]; exact (below_size (by repeat (first | (with_reducible first | exact HB.out | apply bwA | apply bwN | apply bwD | refine below_set ?_ GE279.out) | exact HB.out))) : w.heap.size ≤ gb280)); have n4_ := Aside0.mk ((by rw [hg]; exact (below_size (by repeat (first | (with_reducible first | exact HB.out | apply bwA | apply bwN | apply bwD | refine below_set ?_ GE279.out) | exact HB.out))) : w.heap.size ≤ gb280)); have n5_ := Aside0.mk ((by rw [hg]; exact Nat.ne_of_lt (blk_lt (g := gb279) (o := .cells #[.int .i64 a0_0, .int .i64 a0_1, .int .i64 a0_2] 99 (0, 0)) (bvK BK279.out)) : gb279 ≠ gb280)); have n6_ := Aside0.mk ((by rw [hg]; exact Nat.ne_of_gt (blk_lt (g := gb279) (o := .cells #[.int .i64 a0_0, .int .i64 a0_1, .int .i64 a0_2] 99 (0, 0)) (bvK BK279.out)) : gb280 ≠ gb279)); clear BK279; clear HB; have BK279 := n0_; have HB := n1_; have BK280 := n2_; have GW280 := n3_; have GE280 := n4_; have NB279_280 := n5_; have NB280_279 := n6_; clear n0_ n1_ n2_ n3_ n4_ n5_ n6_; clear hb hbox hg; have hnb13 := NB279_280.out; have hnc13 := NB280_279.out; have hcz14_0 : w12.cell? ⟨gb279, 0, none⟩ = some (.int .i64 a0_0) := (blk_cell BK279.out 0).trans rfl; have hcz14_1 : w12.cell? ⟨gb279, 1, none⟩ = some (.int .i64 a0_1) := (blk_cell BK279.out 1).trans rfl; have hcz14_2 : w12.cell? ⟨gb279, 2, none⟩ = some (.int .i64 a0_2) := (blk_cell BK279.out 2).trans rfl; have hfz14_0 := blk_frozen BK279.out 0; have hfz14_1 := blk_frozen BK279.out 1; have hfz14_2 := blk_frozen BK279.out 2; have hcz15_0 : w12.cell? ⟨gb280, 0, none⟩ = some (.int .i64 a1_0) := (blk_cell BK280.out 0).trans rfl; have hcz15_1 : w12.cell? ⟨gb280, 1, none⟩ = some (.int .i64 a1_1) := (blk_cell BK280.out 1).trans rfl; have hcz15_2 : w12.cell? ⟨gb280, 2, none⟩ = some (.int .i64 a1_2) := (blk_cell BK280.out 2).trans rfl; have hfz15_0 := blk_frozen BK280.out 0; have hfz15_1 := blk_frozen BK280.out 1; have hfz15_2 := blk_frozen BK280.out 2))
    go_ret
    exact ⟨ers, by repeat (first | (with_reducible first | exact HB.out | apply bwA | apply bwN | apply bwD | refine below_set ?_ GE279.out | refine below_set ?_ GE280.out) | exact HB.out)⟩
  ·rw [if_neg c4] at H
   have c4b0 : (a0_1 == a1_1) = false := beq_eq_false_iff_ne.mpr c4
   have c4b1 : (a0_1 != a1_1) = true := bne_iff_ne.mpr c4
   obtain rfl := Option.some.inj H
   go_enter Try.func121, Try.ntmps121
   go_wp2_with (first | ((with_reducible refine gate_dst (N := 2) rfl ?_); refine box_event ?hg (N := 2) ?hd (cs := #[.int .i64 a0_0, .int .i64 a0_1, .int .i64 a0_2]) (t := 99) ?hr ?_; (case hd => rfl); (case hg => rfl); (case hr => first | (go_simp; done) | (go_simp; rfl)); intro gb279 hg w16 hbox hb; have n0_ := Aside0.mk (below_step (by repeat (first | (with_reducible first | exact HB.out | apply bwA | apply bwN | apply bwD) | exact HB.out)) hb); have n1_ := Aside0.mk (hbox); have n2_ := Aside0.mk ((by rw [hg]; exact (below_size (by repeat (first | (with_reducible first | exact HB.out | apply bwA | apply bwN | apply bwD) | exact HB.out))) : w.heap.size ≤ gb279)); have n3_ := Aside0.mk ((by rw [hg]; exact (below_size (by repeat (first | (with_reducible first | exact HB.out | apply bwA | apply bwN | apply bwD) | exact HB.out))) : w.heap.size ≤ gb279)); clear HB; have HB := n0_; have BK279 := n1_; have GW279 := n2_; have GE279 := n3_; clear n0_ n1_ n2_ n3_; clear hb hbox hg) | ((with_reducible refine gate_dst (N := 3) rfl ?_); refine box_event ?hg (N := 3) ?hd (cs := #[.int .i64 a1_0, .int .i64 a1_1, .int .i64 a1_2]) (t := 99) ?hr ?_; (case hd => rfl); (case hg => rfl); (case hr => first | (go_simp; done) | (go_simp; rfl)); intro gb280 hg w17 hbox hb; have n0_ := Aside0.mk (blk_below (g := gb279) (o := .cells #[.int .i64 a0_0, .int .i64 a0_1, .int .i64 a0_2] 99 (0, 0)) (bvK BK279.out) hb); have n1_ := Aside0.mk (below_step (by repeat (first | (with_reducible first | exact HB.out | apply bwA | apply bwN | apply bwD | refine below_set ?_ GE279.out) | exact HB.out)) hb); have n2_ := Aside0.mk (hbox); have n3_ := Aside0.mk ((by rw [hg]; exact (below_size (by repeat (first | (with_reducible first | exact HB.out | apply bwA | apply bwN | apply bwD | refine below_set ?_ GE279.out) | exact HB.out))) : w.heap.size ≤ gb280)); have n4_ := Aside0.mk ((by rw [hg]; exact (below_size (by repeat (first | (with_reducible first | exact HB.out | apply bwA | apply bwN | apply bwD | refine below_set ?_ GE279.out) | exact HB.out))) : w.heap.size ≤ gb280)); have n5_ := Aside0.mk ((by rw [hg]; exact Nat.ne_of_lt (blk_lt (g := gb279) (o := .cells #[.int .i64 a0_0, .int .i64 a0_1, .int .i64 a0_2] 99 (0, 0)) (bvK BK279.out)) : gb279 ≠ gb280)); have n6_ := Aside0.mk ((by rw [hg]; exact Nat.ne_of_gt (blk_lt (g := gb279) (o := .cells #[.int .i64 a0_0, .int .i64 a0_1, .int .i64 a0_2] 99 (0, 0)) (bvK BK279.out)) : gb280 ≠ gb279)); clear BK279; clear HB; have BK279 := n0_; have HB := n1_; have BK280 := n2_; have GW280 := n3_; have GE280 := n4_; have NB279_280 := n5_; have NB280_279 := n6_; clear n0_ n1_ n2_ n3_ n4_ n5_ n6_; clear hb hbox hg; have hnb18 := NB279_280.out; have hnc18 := NB280_279.out; have hcz19_0 : w17.cell? ⟨gb279, 0, none⟩ = some (.int .i64 a0_0) := (blk_cell BK279.out 0).trans rfl; have hcz19_1 : w17.cell? ⟨gb279, 1, none⟩ = some (.int .i64 a0_1) := (blk_cell BK279.out 1).trans rfl; have hcz19_2 : w17.cell? ⟨gb279, 2, none⟩ = some (.int .i64 a0_2) := (blk_cell BK279.out 2).trans rfl; have hfz19_0 := blk_frozen BK279.out 0; have hfz19_1 := blk_frozen BK279.out 1; have hfz19_2 := blk_frozen BK279.out 2; have hcz20_0 : w17.cell? ⟨gb280, 0, none⟩ = some (.int .i64 a1_0) := (blk_cell BK280.out 0).trans rfl; have hcz20_1 : w17.cell? ⟨gb280, 1, none⟩ = some (.int .i64 a1_1) := (blk_cell BK280.out 1).trans rfl; have hcz20_2 : w17.cell? ⟨gb280, 2, none⟩ = some (.int .i64 a1_2) := (blk_cell BK280.out 2).trans rfl; have hfz20_0 := blk_frozen BK280.out 0; have hfz20_1 := blk_frozen BK280.out 1; have hfz20_2 := blk_frozen BK280.out 2))
   go_ret
   exact ⟨ers, by repeat (first | (with_reducible first | exact HB.out | apply bwA | apply bwN | apply bwD | refine below_set ?_ GE279.out | refine below_set ?_ GE280.out) | exact HB.out)⟩
 ·rw [if_neg c3] at H
  have c3b0 : (a0_0 == a1_0) = false := beq_eq_false_iff_ne.mpr c3
  have c3b1 : (a0_0 != a1_0) = true := bne_iff_ne.mpr c3
  obtain rfl := Option.some.inj H
  go_enter Try.func121, Try.ntmps121
  go_wp2_with (first | ((with_reducible refine gate_dst (N := 2) rfl ?_); refine box_event ?hg (N := 2) ?hd (cs := #[.int .i64 a0_0, .int .i64 a0_1, .int .i64 a0_2]) (t := 99) ?hr ?_; (case hd => rfl); (case hg => rfl); (case hr => first | (go_simp; done) | (go_simp; rfl)); intro gb279 hg w21 hbox hb; have n0_ := Aside0.mk (below_step (by repeat (first | (with_reducible first | exact HB.out | apply bwA | apply bwN | apply bwD) | exact HB.out)) hb); have n1_ := Aside0.mk (hbox); have n2_ := Aside0.mk ((by rw [hg]; exact (below_size (by repeat (first | (with_reducible first | exact HB.out | apply bwA | apply bwN | apply bwD) | exact HB.out))) : w.heap.size ≤ gb279)); have n3_ := Aside0.mk ((by rw [hg]; exact (below_size (by repeat (first | (with_reducible first | exact HB.out | apply bwA | apply bwN | apply bwD) | exact HB.out))) : w.heap.size ≤ gb279)); clear HB; have HB := n0_; have BK279 := n1_; have GW279 := n2_; have GE279 := n3_; clear n0_ n1_ n2_ n3_; clear hb hbox hg) | ((with_reducible refine gate_dst (N := 3) rfl ?_); refine box_event ?hg (N := 3) ?hd (cs := #[.int .i64 a1_0, .int .i64 a1_1, .int .i64 a1_2]) (t := 99) ?hr ?_; (case hd => rfl); (case hg => rfl); (case hr => first | (go_simp; done) | (go_simp; rfl)); intro gb280 hg w22 hbox hb; have n0_ := Aside0.mk (blk_below (g := gb279) (o := .cells #[.int .i64 a0_0, .int .i64 a0_1, .int .i64 a0_2] 99 (0, 0)) (bvK BK279.out) hb); have n1_ := Aside0.mk (below_step (by repeat (first | (with_reducible first | exact HB.out | apply bwA | apply bwN | apply bwD | refine below_set ?_ GE279.out) | exact HB.out)) hb); have n2_ := Aside0.mk (hbox); have n3_ := Aside0.mk ((by rw [hg]; exact (below_size (by repeat (first | (with_reducible first | exact HB.out | apply bwA | apply bwN | apply bwD | refine below_set ?_ GE279.out) | exact HB.out))) : w.heap.size ≤ gb280)); have n4_ := Aside0.mk ((by rw [hg]; exact (below_size (by repeat (first | (with_reducible first | exact HB.out | apply bwA | apply bwN | apply bwD | refine below_set ?_ GE279.out) | exact HB.out))) : w.heap.size ≤ gb280)); have n5_ := Aside0.mk ((by rw [hg]; exact Nat.ne_of_lt (blk_lt (g := gb279) (o := .cells #[.int .i64 a0_0, .int .i64 a0_1, .int .i64 a0_2] 99 (0, 0)) (bvK BK279.out)) : gb279 ≠ gb280)); have n6_ := Aside0.mk ((by rw [hg]; exact Nat.ne_of_gt (blk_lt (g := gb279) (o := .cells #[.int .i64 a0_0, .int .i64 a0_1, .int .i64 a0_2] 99 (0, 0)) (bvK BK279.out)) : gb280 ≠ gb279)); clear BK279; clear HB; have BK279 := n0_; have HB := n1_; have BK280 := n2_; have GW280 := n3_; have GE280 := n4_; have NB279_280 := n5_; have NB280_279 := n6_; clear n0_ n1_ n2_ n3_ n4_ n5_ n6_; clear hb hbox hg; have hnb23 := NB279_280.out; have hnc23 := NB280_279.out; have hcz24_0 : w22.cell? ⟨gb279, 0, none⟩ = some (.int .i64 a0_0) := (blk_cell BK279.out 0).trans rfl; have hcz24_1 : w22.cell? ⟨gb279, 1, none⟩ = some (.int .i64 a0_1) := (blk_cell BK279.out 1).trans rfl; have hcz24_2 : w22.cell? ⟨gb279, 2, none⟩ = some (.int .i64 a0_2) := (blk_cell BK279.out 2).trans rfl; have hfz24_0 := blk_frozen BK279.out 0; have hfz24_1 := blk_frozen BK279.out 1; have hfz24_2 := blk_frozen BK279.out 2; have hcz25_0 : w22.cell? ⟨gb280, 0, none⟩ = some (.int .i64 a1_0) := (blk_cell BK280.out 0).trans rfl; have hcz25_1 : w22.cell? ⟨gb280, 1, none⟩ = some (.int .i64 a1_1) := (blk_cell BK280.out 1).trans rfl; have hcz25_2 : w22.cell? ⟨gb280, 2, none⟩ = some (.int .i64 a1_2) := (blk_cell BK280.out 2).trans rfl; have hfz25_0 := blk_frozen BK280.out 0; have hfz25_1 := blk_frozen BK280.out 1; have hfz25_2 := blk_frozen BK280.out 2))
  go_ret
  exact ⟨ers, by repeat (first | (with_reducible first | exact HB.out | apply bwA | apply bwN | apply bwD | refine below_set ?_ GE279.out | refine below_set ?_ GE280.out) | exact HB.out)⟩

end Go.Proofs.Ytpfkgmcbogcmoaa.QFnExactSizeOf
