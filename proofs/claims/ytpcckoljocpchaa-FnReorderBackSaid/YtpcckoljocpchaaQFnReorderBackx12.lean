-- Written by a program of this session (mk.py). Lean checks it.
import Derived.Test.YtpcckoljocpchaaQFnReorderBackx0
import Derived.Test.YtpcckoljocpchaaQFnReorderBackx1
import Derived.Test.YtpcckoljocpchaaQFnReorderBackx9
import Derived.Test.YtpcckoljocpchaaQFnReorderBackx11
namespace Go.Proofs.Ytpcckoljocpchaa.QFnReorderBack
open Go.RowKit Go.Proofs.YtpcckoljocpchaaW.PrintWords Go.Proofs.YtpcckoljocpchaaW.PrintLast Go.Proofs.YtpcckoljocpchaaW.PrintMore
attribute [local go_sem] max2_int min2_int max_two min_two max_three min_three max_four min_four   -- for this text's walks alone
set_option linter.unusedVariables false
set_option linter.unusedSimpArgs false

attribute [local go_sem high] eqA56
/-! ### spec_DiagramValid: function 88 -/
mutual
def spec_DiagramValid.j0 : Nat → Bool → Int → List (S56) → Option (Bool)
 | 0, _, _, _ => none
 | k + 1, x15, x302000, x302001 => if x15 = true then (some false) else (spec_DiagramValid.l0 k 0 x302000 x302001)
def spec_DiagramValid.l0 : Nat → Int → Int → List (S56) → Option (Bool)
 | 0, _, _, _ => none
 | k + 1, x3, x302000, x302001 => if x3 < (x302001.length : Int) then (if 0 ≤ x3 then ((spec_l8Fork.f k x302000 x302001 ((rd_T56 x302001 x3).f0) ((rd_T56 x302001 x3).f1) ((rd_T56 x302001 x3).f2) (wrap64 (x3 + 1))).bind fun t305 => (if t305 = true then (spec_DiagramValid.j2 k x3 (((rd_T56 x302001 x3).f1) == ((rd_T56 x302001 x3).f2)) x302000 x302001 ((rd_T56 x302001 x3).f0) ((rd_T56 x302001 x3).f1) ((rd_T56 x302001 x3).f2)) else (spec_DiagramValid.j2 k x3 true x302000 x302001 ((rd_T56 x302001 x3).f0) ((rd_T56 x302001 x3).f1) ((rd_T56 x302001 x3).f2)))) else (none)) else (some true)
def spec_DiagramValid.j2 : Nat → Int → Bool → Int → List (S56) → Int → Int → Int → Option (Bool)
 | 0, _, _, _, _, _, _, _ => none
 | k + 1, x3, x40, x302000, x302001, x305000, x305001, x305002 => if x40 = true then (some false) else (spec_DiagramValid.l1 k x3 0 x302000 x302001 x305000 x305001 x305002)
def spec_DiagramValid.l1 : Nat → Int → Int → Int → List (S56) → Int → Int → Int → Option (Bool)
 | 0, _, _, _, _, _, _, _ => none
 | k + 1, x3, x5, x302000, x302001, x305000, x305001, x305002 => if x5 < x3 then (if 0 ≤ x5 then (if x5 < (x302001.length : Int) then (if (((rd_T56 x302001 x5).f0) == x305000 && (((rd_T56 x302001 x5).f1) == x305001 && (((rd_T56 x302001 x5).f2) == x305002))) = true then (some false) else (spec_DiagramValid.l1 k x3 (wrap64 (x5 + 1)) x302000 x302001 x305000 x305001 x305002)) else (none)) else (none)) else (spec_DiagramValid.l0 k (wrap64 (x3 + 1)) x302000 x302001)
end
def spec_DiagramValid.f (k : Nat) (a0_0 : Int) (l0_1 : List (S56)) : Option (Bool) := (spec_l1In.f a0_0 0 12).bind fun t302 => (if t302 = true then (spec_DiagramValid.j0 k (decide ((l0_1.length : Int) > 2000)) a0_0 l0_1) else (spec_DiagramValid.j0 k true a0_0 l0_1))
theorem spec_DiagramValid.mono_l : ∀ k, (∀ y0 y1 y2, LeO (spec_DiagramValid.j0 k y0 y1 y2) (spec_DiagramValid.j0 (k + 1) y0 y1 y2)) ∧ (∀ y0 y1 y2, LeO (spec_DiagramValid.l0 k y0 y1 y2) (spec_DiagramValid.l0 (k + 1) y0 y1 y2)) ∧ (∀ y0 y1 y2 y3 y4 y5 y6, LeO (spec_DiagramValid.j2 k y0 y1 y2 y3 y4 y5 y6) (spec_DiagramValid.j2 (k + 1) y0 y1 y2 y3 y4 y5 y6)) ∧ (∀ y0 y1 y2 y3 y4 y5 y6, LeO (spec_DiagramValid.l1 k y0 y1 y2 y3 y4 y5 y6) (spec_DiagramValid.l1 (k + 1) y0 y1 y2 y3 y4 y5 y6))
 | 0 => ⟨fun _ _ _ r h => by simp [spec_DiagramValid.j0] at h, fun _ _ _ r h => by simp [spec_DiagramValid.l0] at h, fun _ _ _ _ _ _ _ r h => by simp [spec_DiagramValid.j2] at h, fun _ _ _ _ _ _ _ r h => by simp [spec_DiagramValid.l1] at h⟩
 | k + 1 => by
  obtain ⟨ih0, ih1, ih2, ih3⟩ := spec_DiagramValid.mono_l k
  refine ⟨?_, ?_, ?_, ?_⟩
  ·intro y0 y1 y2
   unfold spec_DiagramValid.j0
   repeat' first
   | (with_reducible exact ih0 _ _ _)
   | (with_reducible exact ih1 _ _ _)
   | (with_reducible exact ih2 _ _ _ _ _ _ _)
   | (with_reducible exact ih3 _ _ _ _ _ _ _)
   | (with_reducible exact spec_l8Fork.mono _ _ _ _ _ _ _)
   | (with_reducible exact LeO.refl _)
   | (with_reducible exact LeO.none _)
   | (with_reducible refine LeO.ite ?_ ?_)
   | (with_reducible refine LeO.bind ?_ (fun _ => ?_))
  ·intro y0 y1 y2
   unfold spec_DiagramValid.l0
   repeat' first
   | (with_reducible exact ih0 _ _ _)
   | (with_reducible exact ih1 _ _ _)
   | (with_reducible exact ih2 _ _ _ _ _ _ _)
   | (with_reducible exact ih3 _ _ _ _ _ _ _)
   | (with_reducible exact spec_l8Fork.mono _ _ _ _ _ _ _)
   | (with_reducible exact LeO.refl _)
   | (with_reducible exact LeO.none _)
   | (with_reducible refine LeO.ite ?_ ?_)
   | (with_reducible refine LeO.bind ?_ (fun _ => ?_))
  ·intro y0 y1 y2 y3 y4 y5 y6
   unfold spec_DiagramValid.j2
   repeat' first
   | (with_reducible exact ih0 _ _ _)
   | (with_reducible exact ih1 _ _ _)
   | (with_reducible exact ih2 _ _ _ _ _ _ _)
   | (with_reducible exact ih3 _ _ _ _ _ _ _)
   | (with_reducible exact spec_l8Fork.mono _ _ _ _ _ _ _)
   | (with_reducible exact LeO.refl _)
   | (with_reducible exact LeO.none _)
   | (with_reducible refine LeO.ite ?_ ?_)
   | (with_reducible refine LeO.bind ?_ (fun _ => ?_))
  ·intro y0 y1 y2 y3 y4 y5 y6
   unfold spec_DiagramValid.l1
   repeat' first
   | (with_reducible exact ih0 _ _ _)
   | (with_reducible exact ih1 _ _ _)
   | (with_reducible exact ih2 _ _ _ _ _ _ _)
   | (with_reducible exact ih3 _ _ _ _ _ _ _)
   | (with_reducible exact spec_l8Fork.mono _ _ _ _ _ _ _)
   | (with_reducible exact LeO.refl _)
   | (with_reducible exact LeO.none _)
   | (with_reducible refine LeO.ite ?_ ?_)
   | (with_reducible refine LeO.bind ?_ (fun _ => ?_))
theorem spec_DiagramValid.mono : ∀ a0 a1 k, LeO (spec_DiagramValid.f k a0 a1) (spec_DiagramValid.f (k + 1) a0 a1) := by
 intro a0 a1 k
 obtain ⟨ih0, ih1, ih2, ih3⟩ := spec_DiagramValid.mono_l k
 unfold spec_DiagramValid.f
 repeat' first
   | (with_reducible exact ih0 _ _ _)
   | (with_reducible exact ih1 _ _ _)
   | (with_reducible exact ih2 _ _ _ _ _ _ _)
   | (with_reducible exact ih3 _ _ _ _ _ _ _)
   | (with_reducible exact spec_l8Fork.mono _ _ _ _ _ _ _)
   | (with_reducible exact LeO.refl _)
   | (with_reducible exact LeO.none _)
   | (with_reducible refine LeO.ite ?_ ?_)
   | (with_reducible refine LeO.bind ?_ (fun _ => ?_))
set_option maxHeartbeats 8000000 in
set_option maxRecDepth 100000 in
theorem spec_DiagramValid.calls (k : Nat) (a0_0 : Int) (A0_1 : Option Addr) (c0_1 : Nat) (l0_1 : List (S56)) (r : Bool) (w : World) (hr0_1 : Kd.C k56 w A0_1 l0_1.length l0_1) (hc0_1 : l0_1.length ≤ c0_1) (h : spec_DiagramValid.f k a0_0 l0_1 = some r) :
  Calls Try.prog 88 #[.agg #[.int .i64 a0_0, .slice A0_1 l0_1.length c0_1]] w fun e w' => e = .returned (.bool r) ∧ Below w.heap.size w w' := by
 have hu48 := Try.underlying48
 have hu56 := Try.underlying56
 have HR0_1 := Aside0.mk hr0_1
 have HC0_1 := Aside0.mk hc0_1
 clear hr0_1 hc0_1
 have HB := Aside0.mk (Below.refl w.heap.size w)
 have H : ((spec_l1In.f a0_0 0 12).bind fun t302 => (if t302 = true then (spec_DiagramValid.j0 k (decide ((l0_1.length : Int) > 2000)) a0_0 l0_1) else (spec_DiagramValid.j0 k true a0_0 l0_1))) = some r := h
 clear h
 have HC2 := Aside0.mk H
 clear H
 go_enter Try.func88, Try.ntmps88
 iterate 5 (go_upto_region 1 with (first | ((with_reducible refine gate_dst (N := 1) rfl ?_); (try (refine gate_guard (by rfl) ?_; dsimp only)); refine box_event ?hg (N := 1) ?hd (cs := #[.int .i64 a0_0, .slice A0_1 l0_1.length c0_1]) (t := 48) ?hr ?_; (case hd => rfl); (case hg => rfl); (case hr => first | (go_simp; done) | (go_simp; rfl)); intro gb301 hg w3 hbox hb; have n0_ := Aside0.mk (below_step hbB hb); have n1_ := Aside0.mk (hbox); have n2_ := Aside0.mk ((gwb hg (below_size hbB) : w.heap.size ≤ gb301)); have n3_ := n2_; clear HB; have HB := n0_; have BK301 := n1_; have GW301 := n2_; have GE301 := n3_; clear n0_ n1_ n2_ n3_; clear hb hbox hg)); try go_quiet (fail))
 (try simp only [Act.put, List.setIfInBounds_toArray, List.set_cons_zero, List.set_cons_succ])
 go_cut [15] (fun v15 wc => ∃ (kq : Nat) (x15_1 : Bool), v15 = .bool x15_1 ∧ Aside0 (spec_DiagramValid.j0 kq x15_1 a0_0 l0_1 = some r) ∧ Aside0 (kq ≤ k) ∧ Aside0 (wc.heap[gb301]? = some (.cells #[.int .i64 a0_0, (.slice A0_1 l0_1.length c0_1)] 48 (0, 0))) ∧ Aside0 (Below w.heap.size w wc))
 case first =>
  have H := HC2.out
  clear HC2
  replace H := Option.bind_eq_some_iff.mp H
  obtain ⟨t302, A40, H⟩ := H
  replace H : (if t302 = true then (spec_DiagramValid.j0 k (decide ((l0_1.length : Int) > 2000)) a0_0 l0_1) else (spec_DiagramValid.j0 k true a0_0 l0_1)) = some r := H
  have A4 := Aside0.mk A40
  clear A40
  by_cases c5 : t302 = true
  ·subst c5
   have H1 : (spec_DiagramValid.j0 k (decide ((l0_1.length : Int) > 2000)) a0_0 l0_1) = some r := by rw [if_pos rfl] at H; exact H
   clear H
   have H := H1
   clear H1
   have H' := Aside0.mk H
   clear H
   have hcz6_0 : w3.cell? ⟨gb301, 0, none⟩ = some (.int .i64 a0_0) := (blk_cell BK301.out 0).trans rfl
   have hcz6_1 : w3.cell? ⟨gb301, 1, none⟩ = some (.slice A0_1 l0_1.length c0_1) := (blk_cell BK301.out 1).trans rfl
   have hfz6_0 := blk_frozen BK301.out 0
   have hfz6_1 := blk_frozen BK301.out 1
   iterate 5 (go_wp2_with (first | (go_at_call 74; (with_reducible refine (spec_l1In.calls a0_0 0 12 true _ A4.out).mono ?_); rintro e w' ⟨rfl, ⟨nd, rfl⟩⟩; (try first | exact ⟨rfl, _, World.drewN_drewN _ _ _⟩ | exact ⟨rfl, _, Eq.trans (World.drewN_drewN _ _ _) (congrArg (World.drewN _) (Nat.add_assoc _ _ _))⟩))); try go_quiet (fail))
   go_meet
   case rel => exact ⟨_, (decide ((l0_1.length : Int) > 2000)), rsd, H', ⟨by first | omega | exact Nat.le_refl _⟩, ⟨bvK BK301.out⟩, ⟨hbC⟩⟩
  ·replace c5 := Bool.eq_false_iff.mpr c5
   subst c5
   have H1 : (spec_DiagramValid.j0 k true a0_0 l0_1) = some r := by rw [if_neg (show ¬ (false = true) by decide)] at H; exact H
   clear H
   have H := H1
   clear H1
   have H' := Aside0.mk H
   clear H
   have hcz7_0 : w3.cell? ⟨gb301, 0, none⟩ = some (.int .i64 a0_0) := (blk_cell BK301.out 0).trans rfl
   have hcz7_1 : w3.cell? ⟨gb301, 1, none⟩ = some (.slice A0_1 l0_1.length c0_1) := (blk_cell BK301.out 1).trans rfl
   have hfz7_0 := blk_frozen BK301.out 0
   have hfz7_1 := blk_frozen BK301.out 1
   iterate 5 (go_wp2_with (first | (go_at_call 74; (with_reducible refine (spec_l1In.calls a0_0 0 12 false _ A4.out).mono ?_); rintro e w' ⟨rfl, ⟨nd, rfl⟩⟩; (try first | exact ⟨rfl, _, World.drewN_drewN _ _ _⟩ | exact ⟨rfl, _, Eq.trans (World.drewN_drewN _ _ _) (congrArg (World.drewN _) (Nat.add_assoc _ _ _))⟩))); try go_quiet (fail))
   go_meet
   case rel => exact ⟨_, (true), rsd, H', ⟨by first | omega | exact Nat.le_refl _⟩, ⟨bvK BK301.out⟩, ⟨hbC⟩⟩
 case rest =>
  clear HC2
  try clear p2
  try clear c5
  try clear hcz6_0
  try clear hcz6_1
  try clear hcz7_0
  try clear hcz7_1
  try clear hfz6_0
  try clear hfz6_1
  try clear hfz7_0
  try clear hfz7_1
  obtain ⟨kq, x15_1, rfl, HA, HJ1, BK301, HB⟩ := hcut
  cases kq with
  | zero => exact absurd HA.out (by simp [spec_DiagramValid.j0])
  | succ kj1 =>
   have H := HA.out
   clear HA
   simp only [spec_DiagramValid.j0] at H
   by_cases c8 : x15_1 = true
   ·subst c8
    have H1 : (some false) = some r := by rw [if_pos rfl] at H; exact H
    clear H
    have H := H1
    clear H1
    obtain rfl := Option.some.inj H
    go_wp2
    repeat (go_quiet (fail); try go_wp2)
    go_ret
    exact ⟨ers, hbC⟩
   ·replace c8 := Bool.eq_false_iff.mpr c8
    subst c8
    have H1 : (spec_DiagramValid.l0 kj1 0 a0_0 l0_1) = some r := by rw [if_neg (show ¬ (false = true) by decide)] at H; exact H
    clear H
    have H := H1
    clear H1
    have H' := Aside0.mk H
    clear H
    go_wp2
    repeat (go_quiet (fail); try go_wp2)
    go_loopg [3] kj1 (fun kq v3 w' => ∃ (x3_2 : Int), v3 = .int .i64 x3_2 ∧ Aside0 (spec_DiagramValid.l0 kq x3_2 a0_0 l0_1 = some r) ∧ Aside0 (kq ≤ kj1) ∧ Aside0 (w'.heap[gb301]? = some (.cells #[.int .i64 a0_0, (.slice A0_1 l0_1.length c0_1)] 48 (0, 0))) ∧ Aside0 (Below w.heap.size w w'))
    case atStart => exact ⟨(0), rsd, H', ⟨Nat.le_refl _⟩, ⟨bvK BK301.out⟩, ⟨hbC⟩⟩
    case round =>
     clear H'
     try clear p2
     try clear c5
     try clear c8
     try clear hcz6_0
     try clear hcz6_1
     try clear hcz7_0
     try clear hcz7_1
     try clear hfz6_0
     try clear hfz6_1
     try clear hfz7_0
     try clear hfz7_1
     try clear p2
     obtain ⟨x3_2, rfl, HA, HK2, BK301, HB⟩ := hrel
     cases gk with
     | zero => exact absurd HA.out (by simp [spec_DiagramValid.l0])
     | succ k2 =>
      have H := HA.out
      clear HA
      simp only [spec_DiagramValid.l0] at H
      by_cases c9 : x3_2 < (l0_1.length : Int)
      ·rw [if_pos c9] at H
       have c9b0 : decide (x3_2 < (l0_1.length : Int)) = true := decide_eq_true c9
       clear c9
       by_cases c10 : 0 ≤ x3_2
       ·rw [if_pos c10] at H
        have c10b0 : decide (0 ≤ x3_2) = true := decide_eq_true c10
        clear c10
        have HC11 := Aside0.mk H
        clear H
        have hcz12_0 : wr.cell? ⟨gb301, 0, none⟩ = some (.int .i64 a0_0) := (blk_cell BK301.out 0).trans rfl
        have hcz12_1 : wr.cell? ⟨gb301, 1, none⟩ = some (.slice A0_1 l0_1.length c0_1) := (blk_cell BK301.out 1).trans rfl
        have hfz12_0 := blk_frozen BK301.out 0
        have hfz12_1 := blk_frozen BK301.out 1
        have p303 : 0 ≤ (x3_2 : Int) := oda
        have q303 : x3_2 < (l0_1.length : Int) := oda
        obtain ⟨ad303, e303, hx303_0, hx303_1, hx303_2⟩ := at_T56 HR0_1.out x3_2 p303 q303
        cases e303
        try replace hx303_0 := bct HB.out hx303_0
        try replace hx303_1 := bct HB.out hx303_1
        try replace hx303_2 := bct HB.out hx303_2
        replace p303 := eq_true p303
        replace q303 := eq_true q303
        iterate 5 (go_upto_region 7 with (first | ((with_reducible refine gate_dst (N := 4) rfl ?_); (try (refine gate_guard (by rfl) ?_; dsimp only)); refine box_event ?hg (N := 4) ?hd (cs := #[.int .i64 0, .int .i64 0, .int .i64 0]) (t := 56) ?hr ?_; (case hd => rfl); (case hg => rfl); (case hr => first | (go_simp; done) | (go_simp; rfl)); intro gb304 hg w13 hbox hb; have n0_ := Aside0.mk (blk_below (g := gb301) (o := .cells #[.int .i64 a0_0, .slice (some ad303) l0_1.length c0_1] 48 (0, 0)) (bvK BK301.out) hb); have n1_ := Aside0.mk (below_step hbC hb); have n2_ := Aside0.mk (hbox); have n3_ := Aside0.mk ((gwb hg (below_size hbC) : w.heap.size ≤ gb304)); have n4_ := n3_; have n5_ := Aside0.mk ((by rw [hg]; exact Nat.ne_of_lt (blk_lt (g := gb301) (o := .cells #[.int .i64 a0_0, .slice (some ad303) l0_1.length c0_1] 48 (0, 0)) (bvK BK301.out)) : gb301 ≠ gb304)); have n6_ := Aside0.mk ((by rw [hg]; exact Nat.ne_of_gt (blk_lt (g := gb301) (o := .cells #[.int .i64 a0_0, .slice (some ad303) l0_1.length c0_1] 48 (0, 0)) (bvK BK301.out)) : gb304 ≠ gb301)); clear BK301; clear HB; have BK301 := n0_; have HB := n1_; have BK304 := n2_; have GW304 := n3_; have GE304 := n4_; have NB301_304 := n5_; have NB304_301 := n6_; clear n0_ n1_ n2_ n3_ n4_ n5_ n6_; clear hb hbox hg; have hnb14 := NB304_301.out; have hnc14 := NB301_304.out; have hcz15_0 : w13.cell? ⟨gb304, 0, none⟩ = some (.int .i64 0) := (blk_cell BK304.out 0).trans rfl; have hcz15_1 : w13.cell? ⟨gb304, 1, none⟩ = some (.int .i64 0) := (blk_cell BK304.out 1).trans rfl; have hcz15_2 : w13.cell? ⟨gb304, 2, none⟩ = some (.int .i64 0) := (blk_cell BK304.out 2).trans rfl; have hfz15_0 := blk_frozen BK304.out 0; have hfz15_1 := blk_frozen BK304.out 1; have hfz15_2 := blk_frozen BK304.out 2)); try go_quiet (fail))
        (try simp only [Act.put, List.setIfInBounds_toArray, List.set_cons_zero, List.set_cons_succ])
        go_cut [40] (fun v40 wc => ∃ (kq : Nat) (x40_10 : Bool), v40 = .bool x40_10 ∧ Aside0 (spec_DiagramValid.j2 kq x3_2 x40_10 a0_0 l0_1 ((rd_T56 l0_1 x3_2).f0) ((rd_T56 l0_1 x3_2).f1) ((rd_T56 l0_1 x3_2).f2) = some r) ∧ Aside0 (kq ≤ k2) ∧ Aside0 (wc.heap[gb301]? = some (.cells #[.int .i64 a0_0, (.slice (some ad303) l0_1.length c0_1)] 48 (0, 0))) ∧ Aside0 (wc.heap[gb304]? = some (.cells #[.int .i64 ((rd_T56 l0_1 x3_2).f0), .int .i64 ((rd_T56 l0_1 x3_2).f1), .int .i64 ((rd_T56 l0_1 x3_2).f2)] 56 (0, 0))) ∧ Aside0 (Below w.heap.size w wc))
        case first =>
         have H := HC11.out
         clear HC11
         replace H := Option.bind_eq_some_iff.mp H
         obtain ⟨t305, A160, H⟩ := H
         replace H : (if t305 = true then (spec_DiagramValid.j2 k2 x3_2 (((rd_T56 l0_1 x3_2).f1) == ((rd_T56 l0_1 x3_2).f2)) a0_0 l0_1 ((rd_T56 l0_1 x3_2).f0) ((rd_T56 l0_1 x3_2).f1) ((rd_T56 l0_1 x3_2).f2)) else (spec_DiagramValid.j2 k2 x3_2 true a0_0 l0_1 ((rd_T56 l0_1 x3_2).f0) ((rd_T56 l0_1 x3_2).f1) ((rd_T56 l0_1 x3_2).f2))) = some r := H
         have A16 := Aside0.mk A160
         clear A160
         by_cases c17 : t305 = true
         ·subst c17
          have H1 : (spec_DiagramValid.j2 k2 x3_2 (((rd_T56 l0_1 x3_2).f1) == ((rd_T56 l0_1 x3_2).f2)) a0_0 l0_1 ((rd_T56 l0_1 x3_2).f0) ((rd_T56 l0_1 x3_2).f1) ((rd_T56 l0_1 x3_2).f2)) = some r := by rw [if_pos rfl] at H; exact H
          clear H
          have H := H1
          clear H1
          have H' := Aside0.mk H
          clear H
          have hnb18 := NB301_304.out
          have hnc18 := NB304_301.out
          have hcz19_0 : w13.cell? ⟨gb301, 0, none⟩ = some (.int .i64 a0_0) := (blk_cell BK301.out 0).trans rfl
          have hcz19_1 : w13.cell? ⟨gb301, 1, none⟩ = some (.slice (some ad303) l0_1.length c0_1) := (blk_cell BK301.out 1).trans rfl
          have hfz19_0 := blk_frozen BK301.out 0
          have hfz19_1 := blk_frozen BK301.out 1
          have hcz20_0 : w13.cell? ⟨gb304, 0, none⟩ = some (.int .i64 0) := (blk_cell BK304.out 0).trans rfl
          have hcz20_1 : w13.cell? ⟨gb304, 1, none⟩ = some (.int .i64 0) := (blk_cell BK304.out 1).trans rfl
          have hcz20_2 : w13.cell? ⟨gb304, 2, none⟩ = some (.int .i64 0) := (blk_cell BK304.out 2).trans rfl
          have hfz20_0 := blk_frozen BK304.out 0
          have hfz20_1 := blk_frozen BK304.out 1
          have hfz20_2 := blk_frozen BK304.out 2
          iterate 5 (go_wp2_with (first | (go_at_call 123; (with_reducible refine (spec_l8Fork.calls k2 a0_0 _ _ l0_1 ((rd_T56 l0_1 x3_2).f0) ((rd_T56 l0_1 x3_2).f1) ((rd_T56 l0_1 x3_2).f2) (wrap64 (x3_2 + 1)) true _ ?side1 ?side2 A16.out).mono ?_); (case side1 => exact Kd.C_below HR0_1.out hbC); (case side2 => exact HC0_1.out); rintro e w21 ⟨rfl, hb⟩; have n0_ := Aside0.mk (blk_below (g := gb301) (o := .cells #[.int .i64 a0_0, .slice (some ad303) l0_1.length c0_1] 48 (0, 0)) (by (with_reducible repeat first | apply bkN | apply bkD | apply bkA); refine blk_far ?_ NB301_304.out _; (with_reducible repeat first | apply bkN | apply bkD | apply bkA); refine blk_far ?_ NB301_304.out _; (with_reducible repeat first | apply bkN | apply bkD | apply bkA); refine blk_far ?_ NB301_304.out _; (with_reducible repeat first | apply bkN | apply bkD | apply bkA); exact BK301.out) hb); have n1_ := Aside0.mk (blk_below (g := gb304) (o := .cells #[.int .i64 ((rd_T56 l0_1 x3_2).f0), .int .i64 ((rd_T56 l0_1 x3_2).f1), .int .i64 ((rd_T56 l0_1 x3_2).f2)] 56 (0, 0)) (by (with_reducible repeat first | apply bkN | apply bkD | apply bkA); refine blk_put (cs := #[.int .i64 ((rd_T56 l0_1 x3_2).f0), .int .i64 ((rd_T56 l0_1 x3_2).f1), .int .i64 0]) ?_ 2 _ rfl; (with_reducible repeat first | apply bkN | apply bkD | apply bkA); refine blk_put (cs := #[.int .i64 ((rd_T56 l0_1 x3_2).f0), .int .i64 0, .int .i64 0]) ?_ 1 _ rfl; (with_reducible repeat first | apply bkN | apply bkD | apply bkA); refine blk_put (cs := #[.int .i64 0, .int .i64 0, .int .i64 0]) ?_ 0 _ rfl; (with_reducible repeat first | apply bkN | apply bkD | apply bkA); exact BK304.out) hb); have n2_ := Aside0.mk (below_step hbC hb); clear BK301; clear BK304; clear HB; have BK301 := n0_; have BK304 := n1_; have HB := n2_; clear n0_ n1_ n2_; (try clear hb); (try clear hb2); (try clear hk); (try clear hi); have hcz22_0 : w21.cell? ⟨gb304, 0, none⟩ = some (.int .i64 ((rd_T56 l0_1 x3_2).f0)) := (blk_cell BK304.out 0).trans rfl; have hcz22_1 : w21.cell? ⟨gb304, 1, none⟩ = some (.int .i64 ((rd_T56 l0_1 x3_2).f1)) := (blk_cell BK304.out 1).trans rfl; have hcz22_2 : w21.cell? ⟨gb304, 2, none⟩ = some (.int .i64 ((rd_T56 l0_1 x3_2).f2)) := (blk_cell BK304.out 2).trans rfl; have hfz22_0 := blk_frozen BK304.out 0; have hfz22_1 := blk_frozen BK304.out 1; have hfz22_2 := blk_frozen BK304.out 2)); try go_quiet (fail))
          go_meet
          case rel => exact ⟨_, ((((rd_T56 l0_1 x3_2).f1) == ((rd_T56 l0_1 x3_2).f2))), rsd, H', ⟨by have := HJ1.out; have := HK2.out; first | omega | exact Nat.le_refl _⟩, ⟨bvK BK301.out⟩, ⟨bvK BK304.out⟩, ⟨hbC⟩⟩
         ·replace c17 := Bool.eq_false_iff.mpr c17
          subst c17
          have H1 : (spec_DiagramValid.j2 k2 x3_2 true a0_0 l0_1 ((rd_T56 l0_1 x3_2).f0) ((rd_T56 l0_1 x3_2).f1) ((rd_T56 l0_1 x3_2).f2)) = some r := by rw [if_neg (show ¬ (false = true) by decide)] at H; exact H
          clear H
          have H := H1
          clear H1
          have H' := Aside0.mk H
          clear H
          have hnb23 := NB301_304.out
          have hnc23 := NB304_301.out
          have hcz24_0 : w13.cell? ⟨gb301, 0, none⟩ = some (.int .i64 a0_0) := (blk_cell BK301.out 0).trans rfl
          have hcz24_1 : w13.cell? ⟨gb301, 1, none⟩ = some (.slice (some ad303) l0_1.length c0_1) := (blk_cell BK301.out 1).trans rfl
          have hfz24_0 := blk_frozen BK301.out 0
          have hfz24_1 := blk_frozen BK301.out 1
          have hcz25_0 : w13.cell? ⟨gb304, 0, none⟩ = some (.int .i64 0) := (blk_cell BK304.out 0).trans rfl
          have hcz25_1 : w13.cell? ⟨gb304, 1, none⟩ = some (.int .i64 0) := (blk_cell BK304.out 1).trans rfl
          have hcz25_2 : w13.cell? ⟨gb304, 2, none⟩ = some (.int .i64 0) := (blk_cell BK304.out 2).trans rfl
          have hfz25_0 := blk_frozen BK304.out 0
          have hfz25_1 := blk_frozen BK304.out 1
          have hfz25_2 := blk_frozen BK304.out 2
          iterate 5 (go_wp2_with (first | (go_at_call 123; (with_reducible refine (spec_l8Fork.calls k2 a0_0 _ _ l0_1 ((rd_T56 l0_1 x3_2).f0) ((rd_T56 l0_1 x3_2).f1) ((rd_T56 l0_1 x3_2).f2) (wrap64 (x3_2 + 1)) false _ ?side1 ?side2 A16.out).mono ?_); (case side1 => exact Kd.C_below HR0_1.out hbC); (case side2 => exact HC0_1.out); rintro e w26 ⟨rfl, hb⟩; have n0_ := Aside0.mk (blk_below (g := gb301) (o := .cells #[.int .i64 a0_0, .slice (some ad303) l0_1.length c0_1] 48 (0, 0)) (by (with_reducible repeat first | apply bkN | apply bkD | apply bkA); refine blk_far ?_ NB301_304.out _; (with_reducible repeat first | apply bkN | apply bkD | apply bkA); refine blk_far ?_ NB301_304.out _; (with_reducible repeat first | apply bkN | apply bkD | apply bkA); refine blk_far ?_ NB301_304.out _; (with_reducible repeat first | apply bkN | apply bkD | apply bkA); exact BK301.out) hb); have n1_ := Aside0.mk (blk_below (g := gb304) (o := .cells #[.int .i64 ((rd_T56 l0_1 x3_2).f0), .int .i64 ((rd_T56 l0_1 x3_2).f1), .int .i64 ((rd_T56 l0_1 x3_2).f2)] 56 (0, 0)) (by (with_reducible repeat first | apply bkN | apply bkD | apply bkA); refine blk_put (cs := #[.int .i64 ((rd_T56 l0_1 x3_2).f0), .int .i64 ((rd_T56 l0_1 x3_2).f1), .int .i64 0]) ?_ 2 _ rfl; (with_reducible repeat first | apply bkN | apply bkD | apply bkA); refine blk_put (cs := #[.int .i64 ((rd_T56 l0_1 x3_2).f0), .int .i64 0, .int .i64 0]) ?_ 1 _ rfl; (with_reducible repeat first | apply bkN | apply bkD | apply bkA); refine blk_put (cs := #[.int .i64 0, .int .i64 0, .int .i64 0]) ?_ 0 _ rfl; (with_reducible repeat first | apply bkN | apply bkD | apply bkA); exact BK304.out) hb); have n2_ := Aside0.mk (below_step hbC hb); clear BK301; clear BK304; clear HB; have BK301 := n0_; have BK304 := n1_; have HB := n2_; clear n0_ n1_ n2_; (try clear hb); (try clear hb2); (try clear hk); (try clear hi))); try go_quiet (fail))
          go_meet
          case rel => exact ⟨_, (true), rsd, H', ⟨by have := HJ1.out; have := HK2.out; first | omega | exact Nat.le_refl _⟩, ⟨bvK BK301.out⟩, ⟨bvK BK304.out⟩, ⟨hbC⟩⟩
        case rest =>
         clear HC11
         try clear c1
         try clear c2
         try clear p2
         try clear p3
         try clear q3
         try clear hx3
         try clear c5
         try clear p6
         try clear c8
         try clear c9
         try clear c9b0
         try clear c10
         try clear c10b0
         try clear c14
         try clear c17
         try clear c18
         try clear c23
         try clear hcz12_0
         try clear hcz12_1
         try clear hcz15_0
         try clear hcz15_1
         try clear hcz15_2
         try clear hcz19_0
         try clear hcz19_1
         try clear hcz20_0
         try clear hcz20_1
         try clear hcz20_2
         try clear hcz22_0
         try clear hcz22_1
         try clear hcz22_2
         try clear hcz24_0
         try clear hcz24_1
         try clear hcz25_0
         try clear hcz25_1
         try clear hcz25_2
         try clear hcz6_0
         try clear hcz6_1
         try clear hcz7_0
         try clear hcz7_1
         try clear hfz12_0
         try clear hfz12_1
         try clear hfz15_0
         try clear hfz15_1
         try clear hfz15_2
         try clear hfz19_0
         try clear hfz19_1
         try clear hfz20_0
         try clear hfz20_1
         try clear hfz20_2
         try clear hfz22_0
         try clear hfz22_1
         try clear hfz22_2
         try clear hfz24_0
         try clear hfz24_1
         try clear hfz25_0
         try clear hfz25_1
         try clear hfz25_2
         try clear hfz6_0
         try clear hfz6_1
         try clear hfz7_0
         try clear hfz7_1
         try clear hx303_0
         try clear hx303_1
         try clear hx303_2
         try clear p2
         try clear p303
         try clear q303
         obtain ⟨kq, x40_10, rfl, HA, HJ10, BK301, BK304, HB⟩ := hcut
         cases kq with
         | zero => exact absurd HA.out (by simp [spec_DiagramValid.j2])
         | succ kj10 =>
          have H := HA.out
          clear HA
          simp only [spec_DiagramValid.j2] at H
          by_cases c27 : x40_10 = true
          ·subst c27
           have H1 : (some false) = some r := by rw [if_pos rfl] at H; exact H
           clear H
           have H := H1
           clear H1
           obtain rfl := Option.some.inj H
           go_wp2
           repeat (go_quiet (fail); try go_wp2)
           go_ret
           exact ⟨ers, hbC⟩
          ·replace c27 := Bool.eq_false_iff.mpr c27
           subst c27
           have H1 : (spec_DiagramValid.l1 kj10 x3_2 0 a0_0 l0_1 ((rd_T56 l0_1 x3_2).f0) ((rd_T56 l0_1 x3_2).f1) ((rd_T56 l0_1 x3_2).f2)) = some r := by rw [if_neg (show ¬ (false = true) by decide)] at H; exact H
           clear H
           have H := H1
           clear H1
           have H' := Aside0.mk H
           clear H
           go_wp2
           repeat (go_quiet (fail); try go_wp2)
           go_loopg [5] kj10 (fun kq v5 w' => ∃ (x5_4 : Int), v5 = .int .i64 x5_4 ∧ Aside0 (spec_DiagramValid.l1 kq x3_2 x5_4 a0_0 l0_1 ((rd_T56 l0_1 x3_2).f0) ((rd_T56 l0_1 x3_2).f1) ((rd_T56 l0_1 x3_2).f2) = some r) ∧ Aside0 (kq ≤ kj10) ∧ Aside0 (w'.heap[gb301]? = some (.cells #[.int .i64 a0_0, (.slice (some ad303) l0_1.length c0_1)] 48 (0, 0))) ∧ Aside0 (w'.heap[gb304]? = some (.cells #[.int .i64 ((rd_T56 l0_1 x3_2).f0), .int .i64 ((rd_T56 l0_1 x3_2).f1), .int .i64 ((rd_T56 l0_1 x3_2).f2)] 56 (0, 0))) ∧ Aside0 (Below w.heap.size w w'))
           case atStart => exact ⟨(0), rsd, H', ⟨Nat.le_refl _⟩, ⟨bvK BK301.out⟩, ⟨bvK BK304.out⟩, ⟨hbC⟩⟩
           case round =>
            clear H'
            try clear c1
            try clear c2
            try clear p2
            try clear p3
            try clear q3
            try clear hx3
            try clear c5
            try clear p6
            try clear c8
            try clear c9
            try clear c9b0
            try clear c10
            try clear c10b0
            try clear c14
            try clear c17
            try clear c18
            try clear c23
            try clear c27
            try clear hcz12_0
            try clear hcz12_1
            try clear hcz15_0
            try clear hcz15_1
            try clear hcz15_2
            try clear hcz19_0
            try clear hcz19_1
            try clear hcz20_0
            try clear hcz20_1
            try clear hcz20_2
            try clear hcz22_0
            try clear hcz22_1
            try clear hcz22_2
            try clear hcz24_0
            try clear hcz24_1
            try clear hcz25_0
            try clear hcz25_1
            try clear hcz25_2
            try clear hcz6_0
            try clear hcz6_1
            try clear hcz7_0
            try clear hcz7_1
            try clear hfz12_0
            try clear hfz12_1
            try clear hfz15_0
            try clear hfz15_1
            try clear hfz15_2
            try clear hfz19_0
            try clear hfz19_1
            try clear hfz20_0
            try clear hfz20_1
            try clear hfz20_2
            try clear hfz22_0
            try clear hfz22_1
            try clear hfz22_2
            try clear hfz24_0
            try clear hfz24_1
            try clear hfz25_0
            try clear hfz25_1
            try clear hfz25_2
            try clear hfz6_0
            try clear hfz6_1
            try clear hfz7_0
            try clear hfz7_1
            try clear hx303_0
            try clear hx303_1
            try clear hx303_2
            try clear p2
            try clear p3
            try clear p303
            try clear p6
            try clear q3
            try clear q303
            obtain ⟨x5_4, rfl, HA, HK4, BK301, BK304, HB⟩ := hrel
            cases gk with
            | zero => exact absurd HA.out (by simp [spec_DiagramValid.l1])
            | succ k4 =>
             have H := HA.out
             clear HA
             simp only [spec_DiagramValid.l1] at H
             by_cases c28 : x5_4 < x3_2
             ·rw [if_pos c28] at H
              have c28b0 : decide (x5_4 < x3_2) = true := decide_eq_true c28
              clear c28
              by_cases c29 : 0 ≤ x5_4
              ·rw [if_pos c29] at H
               have c29b0 : decide (0 ≤ x5_4) = true := decide_eq_true c29
               clear c29
               by_cases c30 : x5_4 < (l0_1.length : Int)
               ·rw [if_pos c30] at H
                have c30b0 : decide (x5_4 < (l0_1.length : Int)) = true := decide_eq_true c30
                clear c30
                by_cases c31 : (((rd_T56 l0_1 x5_4).f0) == ((rd_T56 l0_1 x3_2).f0) && (((rd_T56 l0_1 x5_4).f1) == ((rd_T56 l0_1 x3_2).f1) && (((rd_T56 l0_1 x5_4).f2) == ((rd_T56 l0_1 x3_2).f2)))) = true
                ·rw [if_pos c31] at H
                 have c31b0 : (((rd_T56 l0_1 x5_4).f0) == ((rd_T56 l0_1 x3_2).f0) && (((rd_T56 l0_1 x5_4).f1) == ((rd_T56 l0_1 x3_2).f1) && (((rd_T56 l0_1 x5_4).f2) == ((rd_T56 l0_1 x3_2).f2)))) = true := c31
                 (try (have c31b1 : decide (((rd_T56 l0_1 x5_4).f0) = ((rd_T56 l0_1 x3_2).f0) && (((rd_T56 l0_1 x5_4).f1) == ((rd_T56 l0_1 x3_2).f1) && (((rd_T56 l0_1 x5_4).f2) == ((rd_T56 l0_1 x3_2).f2)))) = true := by simpa using c31))
                 (try (have c31b2 : (((rd_T56 l0_1 x5_4).f0) == ((rd_T56 l0_1 x3_2).f0) && (((rd_T56 l0_1 x5_4).f1) == ((rd_T56 l0_1 x3_2).f1) && (((rd_T56 l0_1 x5_4).f2) == ((rd_T56 l0_1 x3_2).f2)))) = true := by simpa using c31))
                 clear c31
                 obtain rfl := Option.some.inj H
                 have hnb32 := NB301_304.out
                 have hnc32 := NB304_301.out
                 have hcz33_0 : wr.cell? ⟨gb301, 0, none⟩ = some (.int .i64 a0_0) := (blk_cell BK301.out 0).trans rfl
                 have hcz33_1 : wr.cell? ⟨gb301, 1, none⟩ = some (.slice (some ad303) l0_1.length c0_1) := (blk_cell BK301.out 1).trans rfl
                 have hfz33_0 := blk_frozen BK301.out 0
                 have hfz33_1 := blk_frozen BK301.out 1
                 have p306 : 0 ≤ (x5_4 : Int) := oda
                 have q306 : x5_4 < (l0_1.length : Int) := oda
                 obtain ⟨ad306, e306, hx306_0, hx306_1, hx306_2⟩ := at_T56 HR0_1.out x5_4 p306 q306
                 obtain rfl : ad303 = ad306 := (by injection e306)
                 try replace hx306_0 := bct HB.out hx306_0
                 try replace hx306_1 := bct HB.out hx306_1
                 try replace hx306_2 := bct HB.out hx306_2
                 replace p306 := eq_true p306
                 replace q306 := eq_true q306
                 have hcz34_0 : wr.cell? ⟨gb304, 0, none⟩ = some (.int .i64 ((rd_T56 l0_1 x3_2).f0)) := (blk_cell BK304.out 0).trans rfl
                 have hcz34_1 : wr.cell? ⟨gb304, 1, none⟩ = some (.int .i64 ((rd_T56 l0_1 x3_2).f1)) := (blk_cell BK304.out 1).trans rfl
                 have hcz34_2 : wr.cell? ⟨gb304, 2, none⟩ = some (.int .i64 ((rd_T56 l0_1 x3_2).f2)) := (blk_cell BK304.out 2).trans rfl
                 have hfz34_0 := blk_frozen BK304.out 0
                 have hfz34_1 := blk_frozen BK304.out 1
                 have hfz34_2 := blk_frozen BK304.out 2
                 go_wp2
                 repeat (go_quiet (fail); try go_wp2)
                 go_ret
                 exact ⟨ers, hbC⟩
                ·rw [if_neg c31] at H
                 have c31b0 : (((rd_T56 l0_1 x5_4).f0) == ((rd_T56 l0_1 x3_2).f0) && (((rd_T56 l0_1 x5_4).f1) == ((rd_T56 l0_1 x3_2).f1) && (((rd_T56 l0_1 x5_4).f2) == ((rd_T56 l0_1 x3_2).f2)))) = false := by simpa using c31
                 (try (have c31b1 : decide (((rd_T56 l0_1 x5_4).f0) = ((rd_T56 l0_1 x3_2).f0) && (((rd_T56 l0_1 x5_4).f1) == ((rd_T56 l0_1 x3_2).f1) && (((rd_T56 l0_1 x5_4).f2) == ((rd_T56 l0_1 x3_2).f2)))) = false := by simpa using c31))
                 (try (have c31b2 : (((rd_T56 l0_1 x5_4).f0) == ((rd_T56 l0_1 x3_2).f0) && (((rd_T56 l0_1 x5_4).f1) == ((rd_T56 l0_1 x3_2).f1) && (((rd_T56 l0_1 x5_4).f2) == ((rd_T56 l0_1 x3_2).f2)))) = false := by simpa using c31))
                 (try (have c31b3 : ¬ (((rd_T56 l0_1 x5_4).f0) = ((rd_T56 l0_1 x3_2).f0) && (((rd_T56 l0_1 x5_4).f1) == ((rd_T56 l0_1 x3_2).f1) && (((rd_T56 l0_1 x5_4).f2) == ((rd_T56 l0_1 x3_2).f2)))) := by simpa using c31))
                 clear c31
                 have H' := Aside0.mk H
                 clear H
                 have hnb35 := NB301_304.out
                 have hnc35 := NB304_301.out
                 have hcz36_0 : wr.cell? ⟨gb301, 0, none⟩ = some (.int .i64 a0_0) := (blk_cell BK301.out 0).trans rfl
                 have hcz36_1 : wr.cell? ⟨gb301, 1, none⟩ = some (.slice (some ad303) l0_1.length c0_1) := (blk_cell BK301.out 1).trans rfl
                 have hfz36_0 := blk_frozen BK301.out 0
                 have hfz36_1 := blk_frozen BK301.out 1
                 have p306 : 0 ≤ (x5_4 : Int) := oda
                 have q306 : x5_4 < (l0_1.length : Int) := oda
                 obtain ⟨ad306, e306, hx306_0, hx306_1, hx306_2⟩ := at_T56 HR0_1.out x5_4 p306 q306
                 obtain rfl : ad303 = ad306 := (by injection e306)
                 try replace hx306_0 := bct HB.out hx306_0
                 try replace hx306_1 := bct HB.out hx306_1
                 try replace hx306_2 := bct HB.out hx306_2
                 replace p306 := eq_true p306
                 replace q306 := eq_true q306
                 have hcz37_0 : wr.cell? ⟨gb304, 0, none⟩ = some (.int .i64 ((rd_T56 l0_1 x3_2).f0)) := (blk_cell BK304.out 0).trans rfl
                 have hcz37_1 : wr.cell? ⟨gb304, 1, none⟩ = some (.int .i64 ((rd_T56 l0_1 x3_2).f1)) := (blk_cell BK304.out 1).trans rfl
                 have hcz37_2 : wr.cell? ⟨gb304, 2, none⟩ = some (.int .i64 ((rd_T56 l0_1 x3_2).f2)) := (blk_cell BK304.out 2).trans rfl
                 have hfz37_0 := blk_frozen BK304.out 0
                 have hfz37_1 := blk_frozen BK304.out 1
                 have hfz37_2 := blk_frozen BK304.out 2
                 go_wp2
                 repeat (go_quiet (fail); try go_wp2)
                 go_roundg k4
                 case measure => have := HJ1.out; have := HK2.out; have := HJ10.out; have := HK4.out; omega
                 case rel => exact ⟨(wrap64 (x5_4 + 1)), rsd, H', ⟨by have := HJ1.out; have := HK2.out; have := HJ10.out; have := HK4.out; omega⟩, ⟨bvK BK301.out⟩, ⟨bvK BK304.out⟩, ⟨hbC⟩⟩
               ·rw [if_neg c30] at H
                exact absurd H (by simp)
              ·rw [if_neg c29] at H
               exact absurd H (by simp)
             ·rw [if_neg c28] at H
              have c28b0 : decide (x5_4 < x3_2) = false := decide_eq_false c28
              clear c28
              have H' := Aside0.mk H
              clear H
              go_wp2
              repeat (go_quiet (fail); try go_wp2)
              go_roundg k4
              case measure => have := HJ1.out; have := HK2.out; have := HJ10.out; have := HK4.out; omega
              case rel => exact ⟨(wrap64 (x3_2 + 1)), rsd, H', ⟨by have := HJ1.out; have := HK2.out; have := HJ10.out; have := HK4.out; omega⟩, ⟨bvK BK301.out⟩, ⟨hbC⟩⟩
       ·rw [if_neg c10] at H
        exact absurd H (by simp)
      ·rw [if_neg c9] at H
       have c9b0 : decide (x3_2 < (l0_1.length : Int)) = false := decide_eq_false c9
       clear c9
       obtain rfl := Option.some.inj H
       have hcz38_0 : wr.cell? ⟨gb301, 0, none⟩ = some (.int .i64 a0_0) := (blk_cell BK301.out 0).trans rfl
       have hcz38_1 : wr.cell? ⟨gb301, 1, none⟩ = some (.slice A0_1 l0_1.length c0_1) := (blk_cell BK301.out 1).trans rfl
       have hfz38_0 := blk_frozen BK301.out 0
       have hfz38_1 := blk_frozen BK301.out 1
       go_wp2
       repeat (go_quiet (fail); try go_wp2)
       go_ret
       exact ⟨ers, hbC⟩

/-! ### spec_l8Place: function 89 -/
def spec_l8Place.f (a0_0 : Int) (l0_1 : List (S56)) (a1 : Int) : Option (Bool) := (spec_l1In.f a1 0 (wrap64 ((l0_1.length : Int) + 1))).bind fun t308 => (some t308)
set_option maxHeartbeats 8000000 in
set_option maxRecDepth 100000 in
theorem spec_l8Place.calls (a0_0 : Int) (A0_1 : Option Addr) (c0_1 : Nat) (l0_1 : List (S56)) (a1 : Int) (r : Bool) (w : World) (hr0_1 : Kd.C k56 w A0_1 l0_1.length l0_1) (hc0_1 : l0_1.length ≤ c0_1) (h : spec_l8Place.f a0_0 l0_1 a1 = some r) :
  Calls Try.prog 89 #[.agg #[.int .i64 a0_0, .slice A0_1 l0_1.length c0_1], .int .i64 a1] w fun e w' => e = .returned (.bool r) ∧ Below w.heap.size w w' := by
 have hu48 := Try.underlying48
 have HR0_1 := Aside0.mk hr0_1
 have HC0_1 := Aside0.mk hc0_1
 clear hr0_1 hc0_1
 have HB := Aside0.mk (Below.refl w.heap.size w)
 have H : ((spec_l1In.f a1 0 (wrap64 ((l0_1.length : Int) + 1))).bind fun t308 => (some t308)) = some r := h
 clear h
 replace H := Option.bind_eq_some_iff.mp H
 obtain ⟨t308, A30, H⟩ := H
 replace H : (some t308) = some r := H
 have A3 := Aside0.mk A30
 clear A30
 obtain rfl := Option.some.inj H
 go_enter Try.func89, Try.ntmps89
 go_wp2_with (first | ((with_reducible refine gate_dst (N := 2) rfl ?_); refine box_event ?hg (N := 2) ?hd (cs := #[.int .i64 a0_0, .slice A0_1 l0_1.length c0_1]) (t := 48) ?hr ?_; (case hd => rfl); (case hg => rfl); (case hr => first | (go_simp; done) | (go_simp; rfl)); intro gb307 hg w4 hbox hb; have n0_ := Aside0.mk (below_step hbB hb); have n1_ := Aside0.mk (hbox); have n2_ := Aside0.mk ((gwb hg (below_size hbB) : w.heap.size ≤ gb307)); have n3_ := n2_; clear HB; have HB := n0_; have BK307 := n1_; have GW307 := n2_; have GE307 := n3_; clear n0_ n1_ n2_ n3_; clear hb hbox hg; have hcz5_0 : w4.cell? ⟨gb307, 0, none⟩ = some (.int .i64 a0_0) := (blk_cell BK307.out 0).trans rfl; have hcz5_1 : w4.cell? ⟨gb307, 1, none⟩ = some (.slice A0_1 l0_1.length c0_1) := (blk_cell BK307.out 1).trans rfl; have hfz5_0 := blk_frozen BK307.out 0; have hfz5_1 := blk_frozen BK307.out 1) | ((with_reducible refine gate_callee (f := 74) rfl ?_); refine goesL_ (some 10) rfl rfl Try.func74 (by kernel_rfl) rfl #[.int .i64 a1, .int .i64 0, .int .i64 (wrap64 ((l0_1.length : Int) + 1))] rfl lmB ?_; (with_reducible refine (spec_l1In.calls a1 0 (wrap64 ((l0_1.length : Int) + 1)) t308 _ A3.out).mono ?_); rintro e w' ⟨rfl, ⟨nd, rfl⟩⟩; refine ⟨_, rfl, ?_⟩))
 go_ret
 exact ⟨ers, hbC⟩

/-! ### spec_l6Value: function 124 -/
def spec_l6Value.l0 : Nat → Int → List Int → Int → Option (List Int)
 | 0, _, _, _ => none
 | k + 1, x0, x5, x6 => if x6 ≥ 0 then (if 0 ≤ x6 then (if x5.length < 17592186044416 then (spec_l6Value.l0 k x0 (x5 ++ [Int.tmod (shr .i64 x0 x6) 2]) (wrap64 (x6 - 1))) else (none)) else (none)) else (some x5)
def spec_l6Value.f (k : Nat) (a0 : Int) (a1 : Int) : Option (List Int) := spec_l6Value.l0 k a0 (([] : List Int)) (wrap64 (a1 - 1))
theorem spec_l6Value.mono_l : ∀ k, (∀ y0 y1 y2, LeO (spec_l6Value.l0 k y0 y1 y2) (spec_l6Value.l0 (k + 1) y0 y1 y2))
 | 0 => fun _ _ _ r h => by simp [spec_l6Value.l0] at h
 | k + 1 => by
  have ih0 := spec_l6Value.mono_l k
  ·intro y0 y1 y2
   unfold spec_l6Value.l0
   repeat' first
   | (with_reducible exact ih0 _ _ _)
   | (with_reducible exact LeO.refl _)
   | (with_reducible exact LeO.none _)
   | (with_reducible refine LeO.ite ?_ ?_)
   | (with_reducible refine LeO.bind ?_ (fun _ => ?_))
theorem spec_l6Value.mono : ∀ a0 a1 k, LeO (spec_l6Value.f k a0 a1) (spec_l6Value.f (k + 1) a0 a1) := by
 intro a0 a1 k
 have ih0 := spec_l6Value.mono_l k
 unfold spec_l6Value.f
 repeat' first
   | (with_reducible exact ih0 _ _ _)
   | (with_reducible exact LeO.refl _)
   | (with_reducible exact LeO.none _)
   | (with_reducible refine LeO.ite ?_ ?_)
   | (with_reducible refine LeO.bind ?_ (fun _ => ?_))
set_option maxHeartbeats 8000000 in
set_option maxRecDepth 100000 in
theorem spec_l6Value.calls (k : Nat) (a0 : Int) (a1 : Int) (r : List Int) (w : World) (h : spec_l6Value.f k a0 a1 = some r) :
  Calls Try.prog 124 #[.int .i64 a0, .int .i64 a1] w fun e w' => ∃ v0_ : Value, e = .returned (v0_) ∧ Kd.R (Kd.int .i64) 3 w' w.heap.size (fun _ => True) v0_ r ∧ Below w.heap.size w w' := by
 have HB := Aside0.mk (Below.refl w.heap.size w)
 have H : (spec_l6Value.l0 k a0 (([] : List Int)) (wrap64 (a1 - 1))) = some r := h
 clear h
 obtain ⟨y309, hy309⟩ : ∃ y_ : List Int, y_ = (([] : List Int)) := ⟨_, rfl⟩
 replace H : (spec_l6Value.l0 k a0 y309 (wrap64 (a1 - 1))) = some r := by first | (rw [hy309]; with_reducible exact H) | (have H2_ := (Option.bind_some _ _).symm.trans H; rw [hy309]; with_reducible exact H2_) | (have H2_ := (Option.bind_some _ _).symm.trans H; with_reducible exact H2_) | with_reducible exact H | (rw [hy309]; exact H) | exact H
 have Ny309 := Aside0.mk hy309
 clear hy309
 have H' := Aside0.mk H
 clear H
 go_enter Try.func124, Try.ntmps124
 go_wp2_with (first | ((with_reducible refine gate_dst (N := 7) rfl ?_); refine Kd.R_lit (Kd.int .i64) _ 3 ?hg (N := 7) ?hd (xs := ([] : List Int)) (inner := []) (ok := fun _ => True) (okp := fun _ => True) ?hr ?hp (fun _ hk => hk) trivial (Below.refl _ _) (Nat.le_refl _) (by simp) ?_; (case hd => rfl); (case hg => rfl); (case hr => first | (go_simp; done) | (go_simp; rfl)); (case hp => exact (Reps.none _ _)); intro v310 w3 ho4 hb hg_ hnew_; clear hg_ hnew_; (first | rw [← Ny309.out] at ho4 | (simp only [Int.reduceToNat] at ho4; rw [← Ny309.out] at ho4)); have n0_ := Aside0.mk (Kd.R_lower ho4 (below_size hbB)); have n1_ := Aside0.mk (below_step hbB hb); clear HB; have HO311 := n0_; have HB := n1_; clear n0_ n1_; clear hb ho4))
 go_loopg [5, 6] k (fun kq v5 v6 w' => ∃ (x5_1 : List Int) (x6_1 : Int), v6 = .int .i64 x6_1 ∧ Aside0 (spec_l6Value.l0 kq a0 x5_1 x6_1 = some r) ∧ Aside0 (kq ≤ k) ∧ Aside0 (Kd.R (Kd.int .i64) 3 w' w.heap.size (fun _ => True) v5 x5_1) ∧ Aside0 (Below w.heap.size w w'))
 case atStart => exact ⟨(y309), (wrap64 (a1 - 1)), rsd, H', ⟨Nat.le_refl _⟩, ⟨rvR HO311.out⟩, ⟨hbB⟩⟩
 case round =>
  clear H'
  try clear c1
  try clear p2
  obtain ⟨x5_1, x6_1, rfl, HA, HK1, HO_5, HB⟩ := hrel
  cases gk with
  | zero => exact absurd HA.out (by simp [spec_l6Value.l0])
  | succ k1 =>
   have H := HA.out
   clear HA
   simp only [spec_l6Value.l0] at H
   by_cases c5 : x6_1 ≥ 0
   ·rw [if_pos c5] at H
    have c5b0 : decide (0 ≤ x6_1) = true := decide_eq_true c5
    clear c5
    by_cases c6 : 0 ≤ x6_1
    ·rw [if_pos c6] at H
     have c6b0 := eq_true c6
     have c6b1 : decide (0 ≤ x6_1) = true := decide_eq_true c6
     clear c6
     obtain ⟨ji7, hji7⟩ : ∃ j_ : Int, (shr .i64 a0 x6_1) = j_ := ⟨_, rfl⟩
     replace H : (if x5_1.length < 17592186044416 then (spec_l6Value.l0 k1 a0 (x5_1 ++ [Int.tmod (ji7) 2]) (wrap64 (x6_1 - 1))) else (none)) = some r := by first | (rw [hji7] at H; exact H) | (simp only [hji7] at H ⊢; exact H)
     have hji7_ : (a0 / 2 ^ min x6_1.toNat 64) = ji7 := hji7
     have hji7z : x6_1 ≤ 64 → (a0 / 2 ^ x6_1.toNat) = ji7 := shr_small hji7
     by_cases c8 : x5_1.length < 17592186044416
     ·rw [if_pos c8] at H
      have LMc8 := Aside0.mk c8
      clear c8
      obtain ⟨y312, hy312⟩ : ∃ y_ : List Int, y_ = (x5_1 ++ [Int.tmod (ji7) 2]) := ⟨_, rfl⟩
      replace H : (spec_l6Value.l0 k1 a0 y312 (wrap64 (x6_1 - 1))) = some r := by first | (rw [hy312]; with_reducible exact H) | (have H2_ := (Option.bind_some _ _).symm.trans H; rw [hy312]; with_reducible exact H2_) | (have H2_ := (Option.bind_some _ _).symm.trans H; with_reducible exact H2_) | with_reducible exact H | (rw [hy312]; exact H) | exact H
      have Ny312 := Aside0.mk hy312
      clear hy312
      have H' := Aside0.mk H
      clear H
      go_wp2_with (first | ((with_reducible refine gate_builtin (b := .append) (xs := #[.tmp 14, .tmp 19]) rfl ?_); at_builtin; refine Kd.R_append (Kd.int .i64) (w0 := w) w.heap.size rfl (.tmp 14) (.tmp 19) 38 3 (.int .i64 0) 8 rfl Try.underlying38 info3 rfl (by decide) (by omega) u5 x5_1 (Int.tmod (ji7) 2) [.int .i64 (Int.tmod (ji7) 2)] (fun _ => True) (fun _ => False) rfl rfl ?aP (fun _ hk => hk.elim) ?aF ?aO ?aB ?aS ?aL ?_; (case aP => exact rfl); (case aB => exact hbB); (case aF => exact (fun _ _ => trivial)); (case aO => exact (rvR HO_5.out)); (case aS => exact (below_size hbB)); (case aL => have := LMc8.out; omega); intro v313 w9 ho hb hg hat; rw [← Ny312.out] at ho; have n0_ := Aside0.mk (hb); have n1_ := Aside0.mk (ho); clear HB; clear HO_5; have HB := n0_; have HO314 := n1_; clear n0_ n1_; clear ho hb hg hat))
      go_roundg k1
      case measure => have := HK1.out; omega
      case rel => exact ⟨(y312), (wrap64 (x6_1 - 1)), rsd, H', ⟨by have := HK1.out; omega⟩, ⟨rvR HO314.out⟩, ⟨hbB⟩⟩
     ·rw [if_neg c8] at H
      exact absurd H (by simp)
    ·rw [if_neg c6] at H
     exact absurd H (by simp)
   ·rw [if_neg c5] at H
    have c5b0 : decide (0 ≤ x6_1) = false := decide_eq_false c5
    clear c5
    obtain rfl := Option.some.inj H
    go_wp2
    go_ret
    exact ⟨_, ers, by (with_reducible repeat first | apply rvA | apply rvN | apply rvD); exact HO_5.out, hbB⟩

/-! ### spec_l8Value: function 125 -/
def spec_l8Value.l0 : Nat → Int → List Int → Int → List (S56) → Option (Int)
 | 0, _, _, _, _ => none
 | k + 1, x1, x2, x316000, x316001 => if x1 > 1 then (if 0 ≤ (wrap64 (x1 - 2)) then (if (wrap64 (x1 - 2)) < (x316001.length : Int) then (if 0 ≤ ((rd_T56 x316001 (wrap64 (x1 - 2))).f0) then (if ((rd_T56 x316001 (wrap64 (x1 - 2))).f0) < (x2.length : Int) then (if (rd x2 ((rd_T56 x316001 (wrap64 (x1 - 2))).f0)) = 1 then (spec_l8Value.l0 k ((rd_T56 x316001 (wrap64 (x1 - 2))).f2) x2 x316000 x316001) else (spec_l8Value.l0 k ((rd_T56 x316001 (wrap64 (x1 - 2))).f1) x2 x316000 x316001)) else (none)) else (none)) else (none)) else (none)) else (some x1)
def spec_l8Value.f (k : Nat) (a0_0 : Int) (l0_1 : List (S56)) (a1 : Int) (l2 : List Int) : Option (Int) := spec_l8Value.l0 k a1 l2 a0_0 l0_1
theorem spec_l8Value.mono_l : ∀ k, (∀ y0 y1 y2 y3, LeO (spec_l8Value.l0 k y0 y1 y2 y3) (spec_l8Value.l0 (k + 1) y0 y1 y2 y3))
 | 0 => fun _ _ _ _ r h => by simp [spec_l8Value.l0] at h
 | k + 1 => by
  have ih0 := spec_l8Value.mono_l k
  ·intro y0 y1 y2 y3
   unfold spec_l8Value.l0
   repeat' first
   | (with_reducible exact ih0 _ _ _ _)
   | (with_reducible exact LeO.refl _)
   | (with_reducible exact LeO.none _)
   | (with_reducible refine LeO.ite ?_ ?_)
   | (with_reducible refine LeO.bind ?_ (fun _ => ?_))
theorem spec_l8Value.mono : ∀ a0 a1 a2 a3 k, LeO (spec_l8Value.f k a0 a1 a2 a3) (spec_l8Value.f (k + 1) a0 a1 a2 a3) := by
 intro a0 a1 a2 a3 k
 have ih0 := spec_l8Value.mono_l k
 unfold spec_l8Value.f
 repeat' first
   | (with_reducible exact ih0 _ _ _ _)
   | (with_reducible exact LeO.refl _)
   | (with_reducible exact LeO.none _)
   | (with_reducible refine LeO.ite ?_ ?_)
   | (with_reducible refine LeO.bind ?_ (fun _ => ?_))
set_option maxHeartbeats 8000000 in
set_option maxRecDepth 100000 in
theorem spec_l8Value.calls (k : Nat) (a0_0 : Int) (A0_1 : Option Addr) (c0_1 : Nat) (l0_1 : List (S56)) (a1 : Int) (A2 : Option Addr) (c2 : Nat) (l2 : List Int) (r : Int) (w : World) (hr0_1 : Kd.C k56 w A0_1 l0_1.length l0_1) (hc0_1 : l0_1.length ≤ c0_1) (hr2 : Kd.C (Kd.int .i64) w A2 l2.length l2) (hc2 : l2.length ≤ c2) (h : spec_l8Value.f k a0_0 l0_1 a1 l2 = some r) :
  Calls Try.prog 125 #[.agg #[.int .i64 a0_0, .slice A0_1 l0_1.length c0_1], .int .i64 a1, .slice A2 l2.length c2] w fun e w' => e = .returned (.int .i64 r) ∧ Below w.heap.size w w' := by
 have hu48 := Try.underlying48
 have hu56 := Try.underlying56
 have HR0_1 := Aside0.mk hr0_1
 have HC0_1 := Aside0.mk hc0_1
 clear hr0_1 hc0_1
 have HR2 := Aside0.mk hr2
 have HC2 := Aside0.mk hc2
 clear hr2 hc2
 have HB := Aside0.mk (Below.refl w.heap.size w)
 have H : (spec_l8Value.l0 k a1 l2 a0_0 l0_1) = some r := h
 clear h
 have H' := Aside0.mk H
 clear H
 go_enter Try.func125, Try.ntmps125
 go_wp2_with (first | ((with_reducible refine gate_dst (N := 3) rfl ?_); refine box_event ?hg (N := 3) ?hd (cs := #[.int .i64 a0_0, .slice A0_1 l0_1.length c0_1]) (t := 48) ?hr ?_; (case hd => rfl); (case hg => rfl); (case hr => first | (go_simp; done) | (go_simp; rfl)); intro gb315 hg w4 hbox hb; have n0_ := Aside0.mk (below_step hbB hb); have n1_ := Aside0.mk (hbox); have n2_ := Aside0.mk ((gwb hg (below_size hbB) : w.heap.size ≤ gb315)); have n3_ := n2_; clear HB; have HB := n0_; have BK315 := n1_; have GW315 := n2_; have GE315 := n3_; clear n0_ n1_ n2_ n3_; clear hb hbox hg))
 go_loopg [1] k (fun kq v1 w' => ∃ (x1_1 : Int), v1 = .int .i64 x1_1 ∧ Aside0 (spec_l8Value.l0 kq x1_1 l2 a0_0 l0_1 = some r) ∧ Aside0 (kq ≤ k) ∧ Aside0 (w'.heap[gb315]? = some (.cells #[.int .i64 a0_0, (.slice A0_1 l0_1.length c0_1)] 48 (0, 0))) ∧ Aside0 (Below w.heap.size w w'))
 case atStart => exact ⟨(a1), rsd, H', ⟨Nat.le_refl _⟩, ⟨bvK BK315.out⟩, ⟨hbC⟩⟩
 case round =>
  clear H'
  try clear c1
  try clear c2
  try clear p2
  obtain ⟨x1_1, rfl, HA, HK1, BK315, HB⟩ := hrel
  cases gk with
  | zero => exact absurd HA.out (by simp [spec_l8Value.l0])
  | succ k1 =>
   have H := HA.out
   clear HA
   simp only [spec_l8Value.l0] at H
   by_cases c5 : x1_1 > 1
   ·rw [if_pos c5] at H
    have c5b0 : decide (1 < x1_1) = true := decide_eq_true c5
    clear c5
    obtain ⟨ji6, hji6⟩ : ∃ j_ : Int, (wrap64 (x1_1 - 2)) = j_ := ⟨_, rfl⟩
    replace H : (if 0 ≤ (ji6) then (if (ji6) < (l0_1.length : Int) then (if 0 ≤ ((rd_T56 l0_1 (ji6)).f0) then (if ((rd_T56 l0_1 (ji6)).f0) < (l2.length : Int) then (if (rd l2 ((rd_T56 l0_1 (ji6)).f0)) = 1 then (spec_l8Value.l0 k1 ((rd_T56 l0_1 (ji6)).f2) l2 a0_0 l0_1) else (spec_l8Value.l0 k1 ((rd_T56 l0_1 (ji6)).f1) l2 a0_0 l0_1)) else (none)) else (none)) else (none)) else (none)) = some r := by first | (rw [hji6] at H; exact H) | (simp only [hji6] at H ⊢; exact H)
    have hji6w : (IntKind.i64.wrap (x1_1 - 2)) = ji6 := (i64_w _).trans hji6
    by_cases c7 : 0 ≤ (ji6)
    ·rw [if_pos c7] at H
     have c7b0 : decide (0 ≤ (ji6)) = true := decide_eq_true c7
     clear c7
     by_cases c8 : (ji6) < (l0_1.length : Int)
     ·rw [if_pos c8] at H
      have c8b0 : decide ((ji6) < (l0_1.length : Int)) = true := decide_eq_true c8
      clear c8
      by_cases c9 : 0 ≤ ((rd_T56 l0_1 (ji6)).f0)
      ·rw [if_pos c9] at H
       have c9b0 : decide (0 ≤ ((rd_T56 l0_1 (ji6)).f0)) = true := decide_eq_true c9
       clear c9
       by_cases c10 : ((rd_T56 l0_1 (ji6)).f0) < (l2.length : Int)
       ·rw [if_pos c10] at H
        have c10b0 : decide (((rd_T56 l0_1 (ji6)).f0) < (l2.length : Int)) = true := decide_eq_true c10
        clear c10
        by_cases c11 : (rd l2 ((rd_T56 l0_1 (ji6)).f0)) = 1
        ·rw [if_pos c11] at H
         have c11b0 : ((rd l2 ((rd_T56 l0_1 (ji6)).f0)) == 1) = true := beq_iff_eq.mpr c11
         have c11b1 : ((rd l2 ((rd_T56 l0_1 (ji6)).f0)) != 1) = false := bne_eq_false_iff_eq.mpr c11
         clear c11
         have H' := Aside0.mk H
         clear H
         have hcz12_0 : wr.cell? ⟨gb315, 0, none⟩ = some (.int .i64 a0_0) := (blk_cell BK315.out 0).trans rfl
         have hcz12_1 : wr.cell? ⟨gb315, 1, none⟩ = some (.slice A0_1 l0_1.length c0_1) := (blk_cell BK315.out 1).trans rfl
         have hfz12_0 := blk_frozen BK315.out 0
         have hfz12_1 := blk_frozen BK315.out 1
         have p316 : 0 ≤ ((ji6) : Int) := oda
         have q316 : (ji6) < (l0_1.length : Int) := oda
         obtain ⟨ad316, e316, hx316_0, hx316_1, hx316_2⟩ := at_T56 HR0_1.out (ji6) p316 q316
         cases e316
         try replace hx316_0 := bct HB.out hx316_0
         try replace hx316_1 := bct HB.out hx316_1
         try replace hx316_2 := bct HB.out hx316_2
         replace p316 := eq_true p316
         replace q316 := eq_true q316
         go_wp2_with (first | ((with_reducible refine gate_dst (N := 7) rfl ?_); refine box_event ?hg (N := 7) ?hd (cs := #[.int .i64 0, .int .i64 0, .int .i64 0]) (t := 56) ?hr ?_; (case hd => rfl); (case hg => rfl); (case hr => first | (go_simp; done) | (go_simp; rfl)); intro gb317 hg w13 hbox hb; have n0_ := Aside0.mk (blk_below (g := gb315) (o := .cells #[.int .i64 a0_0, .slice (some ad316) l0_1.length c0_1] 48 (0, 0)) (bvK BK315.out) hb); have n1_ := Aside0.mk (below_step hbC hb); have n2_ := Aside0.mk (hbox); have n3_ := Aside0.mk ((gwb hg (below_size hbC) : w.heap.size ≤ gb317)); have n4_ := n3_; have n5_ := Aside0.mk ((by rw [hg]; exact Nat.ne_of_lt (blk_lt (g := gb315) (o := .cells #[.int .i64 a0_0, .slice (some ad316) l0_1.length c0_1] 48 (0, 0)) (bvK BK315.out)) : gb315 ≠ gb317)); have n6_ := Aside0.mk ((by rw [hg]; exact Nat.ne_of_gt (blk_lt (g := gb315) (o := .cells #[.int .i64 a0_0, .slice (some ad316) l0_1.length c0_1] 48 (0, 0)) (bvK BK315.out)) : gb317 ≠ gb315)); clear BK315; clear HB; have BK315 := n0_; have HB := n1_; have BK317 := n2_; have GW317 := n3_; have GE317 := n4_; have NB315_317 := n5_; have NB317_315 := n6_; clear n0_ n1_ n2_ n3_ n4_ n5_ n6_; clear hb hbox hg; have hnb14 := NB317_315.out; have hnc14 := NB315_317.out; have hcz15_0 : w13.cell? ⟨gb317, 0, none⟩ = some (.int .i64 0) := (blk_cell BK317.out 0).trans rfl; have hcz15_1 : w13.cell? ⟨gb317, 1, none⟩ = some (.int .i64 0) := (blk_cell BK317.out 1).trans rfl; have hcz15_2 : w13.cell? ⟨gb317, 2, none⟩ = some (.int .i64 0) := (blk_cell BK317.out 2).trans rfl; have hfz15_0 := blk_frozen BK317.out 0; have hfz15_1 := blk_frozen BK317.out 1; have hfz15_2 := blk_frozen BK317.out 2; have p318 : 0 ≤ (((rd_T56 l0_1 (ji6)).f0) : Int) := oda; have q318 : ((rd_T56 l0_1 (ji6)).f0) < (l2.length : Int) := oda; obtain ⟨ad318, e318, hx318_0⟩ := Kd.at_int HR2.out ((rd_T56 l0_1 (ji6)).f0) p318 q318; cases e318; have hn318_0 : ad318.block ≠ gb317 := Nat.ne_of_lt (Nat.lt_of_lt_of_le (blt hx318_0) GW317.out); have hn318_1 : ad318.block ≠ gb317 := Nat.ne_of_lt (Nat.lt_of_lt_of_le (blt hx318_0) GW317.out); have hn318_2 : ad318.block ≠ gb317 := Nat.ne_of_lt (Nat.lt_of_lt_of_le (blt hx318_0) GW317.out); replace hx318_0 := bct HB.out hx318_0; replace hx318_0 := (cell_far (p := ⟨gb317, 0, none⟩) (fnb hn318_0) (.int .i64 ((rd_T56 l0_1 (ji6)).f0))).trans hx318_0; replace hx318_0 := (cell_far (p := ⟨gb317, 1, none⟩) (fnb hn318_1) (.int .i64 ((rd_T56 l0_1 (ji6)).f1))).trans hx318_0; replace hx318_0 := (cell_far (p := ⟨gb317, 2, none⟩) (fnb hn318_2) (.int .i64 ((rd_T56 l0_1 (ji6)).f2))).trans hx318_0; clear hn318_0; clear hn318_1; clear hn318_2; replace p318 := eq_true p318; replace q318 := eq_true q318))
         go_roundg k1
         case measure => have := HK1.out; omega
         case rel => exact ⟨((rd_T56 l0_1 (ji6)).f2), (by first | rfl | (simp; done) | (simp only [← hji6] <;> (first | rfl | simp)) | (simp [*]; done)), H', ⟨by have := HK1.out; omega⟩, ⟨by (with_reducible repeat first | apply bkN | apply bkD | apply bkA); refine blk_far ?_ NB315_317.out _; (with_reducible repeat first | apply bkN | apply bkD | apply bkA); refine blk_far ?_ NB315_317.out _; (with_reducible repeat first | apply bkN | apply bkD | apply bkA); refine blk_far ?_ NB315_317.out _; (with_reducible repeat first | apply bkN | apply bkD | apply bkA); exact BK315.out⟩, ⟨hbC⟩⟩
        ·rw [if_neg c11] at H
         have c11b0 : ((rd l2 ((rd_T56 l0_1 (ji6)).f0)) == 1) = false := beq_eq_false_iff_ne.mpr c11
         have c11b1 : ((rd l2 ((rd_T56 l0_1 (ji6)).f0)) != 1) = true := bne_iff_ne.mpr c11
         have H' := Aside0.mk H
         clear H
         have hcz16_0 : wr.cell? ⟨gb315, 0, none⟩ = some (.int .i64 a0_0) := (blk_cell BK315.out 0).trans rfl
         have hcz16_1 : wr.cell? ⟨gb315, 1, none⟩ = some (.slice A0_1 l0_1.length c0_1) := (blk_cell BK315.out 1).trans rfl
         have hfz16_0 := blk_frozen BK315.out 0
         have hfz16_1 := blk_frozen BK315.out 1
         have p316 : 0 ≤ ((ji6) : Int) := oda
         have q316 : (ji6) < (l0_1.length : Int) := oda
         obtain ⟨ad316, e316, hx316_0, hx316_1, hx316_2⟩ := at_T56 HR0_1.out (ji6) p316 q316
         cases e316
         try replace hx316_0 := bct HB.out hx316_0
         try replace hx316_1 := bct HB.out hx316_1
         try replace hx316_2 := bct HB.out hx316_2
         replace p316 := eq_true p316
         replace q316 := eq_true q316
         go_wp2_with (first | ((with_reducible refine gate_dst (N := 7) rfl ?_); refine box_event ?hg (N := 7) ?hd (cs := #[.int .i64 0, .int .i64 0, .int .i64 0]) (t := 56) ?hr ?_; (case hd => rfl); (case hg => rfl); (case hr => first | (go_simp; done) | (go_simp; rfl)); intro gb317 hg w17 hbox hb; have n0_ := Aside0.mk (blk_below (g := gb315) (o := .cells #[.int .i64 a0_0, .slice (some ad316) l0_1.length c0_1] 48 (0, 0)) (bvK BK315.out) hb); have n1_ := Aside0.mk (below_step hbC hb); have n2_ := Aside0.mk (hbox); have n3_ := Aside0.mk ((gwb hg (below_size hbC) : w.heap.size ≤ gb317)); have n4_ := n3_; have n5_ := Aside0.mk ((by rw [hg]; exact Nat.ne_of_lt (blk_lt (g := gb315) (o := .cells #[.int .i64 a0_0, .slice (some ad316) l0_1.length c0_1] 48 (0, 0)) (bvK BK315.out)) : gb315 ≠ gb317)); have n6_ := Aside0.mk ((by rw [hg]; exact Nat.ne_of_gt (blk_lt (g := gb315) (o := .cells #[.int .i64 a0_0, .slice (some ad316) l0_1.length c0_1] 48 (0, 0)) (bvK BK315.out)) : gb317 ≠ gb315)); clear BK315; clear HB; have BK315 := n0_; have HB := n1_; have BK317 := n2_; have GW317 := n3_; have GE317 := n4_; have NB315_317 := n5_; have NB317_315 := n6_; clear n0_ n1_ n2_ n3_ n4_ n5_ n6_; clear hb hbox hg; have hnb18 := NB317_315.out; have hnc18 := NB315_317.out; have hcz19_0 : w17.cell? ⟨gb317, 0, none⟩ = some (.int .i64 0) := (blk_cell BK317.out 0).trans rfl; have hcz19_1 : w17.cell? ⟨gb317, 1, none⟩ = some (.int .i64 0) := (blk_cell BK317.out 1).trans rfl; have hcz19_2 : w17.cell? ⟨gb317, 2, none⟩ = some (.int .i64 0) := (blk_cell BK317.out 2).trans rfl; have hfz19_0 := blk_frozen BK317.out 0; have hfz19_1 := blk_frozen BK317.out 1; have hfz19_2 := blk_frozen BK317.out 2; have p318 : 0 ≤ (((rd_T56 l0_1 (ji6)).f0) : Int) := oda; have q318 : ((rd_T56 l0_1 (ji6)).f0) < (l2.length : Int) := oda; obtain ⟨ad318, e318, hx318_0⟩ := Kd.at_int HR2.out ((rd_T56 l0_1 (ji6)).f0) p318 q318; cases e318; have hn318_0 : ad318.block ≠ gb317 := Nat.ne_of_lt (Nat.lt_of_lt_of_le (blt hx318_0) GW317.out); have hn318_1 : ad318.block ≠ gb317 := Nat.ne_of_lt (Nat.lt_of_lt_of_le (blt hx318_0) GW317.out); have hn318_2 : ad318.block ≠ gb317 := Nat.ne_of_lt (Nat.lt_of_lt_of_le (blt hx318_0) GW317.out); replace hx318_0 := bct HB.out hx318_0; replace hx318_0 := (cell_far (p := ⟨gb317, 0, none⟩) (fnb hn318_0) (.int .i64 ((rd_T56 l0_1 (ji6)).f0))).trans hx318_0; replace hx318_0 := (cell_far (p := ⟨gb317, 1, none⟩) (fnb hn318_1) (.int .i64 ((rd_T56 l0_1 (ji6)).f1))).trans hx318_0; replace hx318_0 := (cell_far (p := ⟨gb317, 2, none⟩) (fnb hn318_2) (.int .i64 ((rd_T56 l0_1 (ji6)).f2))).trans hx318_0; clear hn318_0; clear hn318_1; clear hn318_2; replace p318 := eq_true p318; replace q318 := eq_true q318))
         go_roundg k1
         case measure => have := HK1.out; omega
         case rel => exact ⟨((rd_T56 l0_1 (ji6)).f1), (by first | rfl | (simp; done) | (simp only [← hji6] <;> (first | rfl | simp)) | (simp [*]; done)), H', ⟨by have := HK1.out; omega⟩, ⟨by (with_reducible repeat first | apply bkN | apply bkD | apply bkA); refine blk_far ?_ NB315_317.out _; (with_reducible repeat first | apply bkN | apply bkD | apply bkA); refine blk_far ?_ NB315_317.out _; (with_reducible repeat first | apply bkN | apply bkD | apply bkA); refine blk_far ?_ NB315_317.out _; (with_reducible repeat first | apply bkN | apply bkD | apply bkA); exact BK315.out⟩, ⟨hbC⟩⟩
       ·rw [if_neg c10] at H
        exact absurd H (by simp)
      ·rw [if_neg c9] at H
       exact absurd H (by simp)
     ·rw [if_neg c8] at H
      exact absurd H (by simp)
    ·rw [if_neg c7] at H
     exact absurd H (by simp)
   ·rw [if_neg c5] at H
    have c5b0 : decide (1 < x1_1) = false := decide_eq_false c5
    clear c5
    obtain rfl := Option.some.inj H
    go_wp2
    go_ret
    exact ⟨ers, hbC⟩

end Go.Proofs.Ytpcckoljocpchaa.QFnReorderBack
