-- Written by a program of this session (mk.py). Lean checks it.
import Derived.Test.YtpcompnmadpljaaQFnDiagramOfx1
import Derived.Test.YtpcompnmadpljaaQFnDiagramOfx0
import Derived.Test.YtpcompnmadpljaaQFnDiagramOfx7
namespace Go.Proofs.Ytpcompnmadpljaa.QFnDiagramOf
open Go.RowKit Go.Proofs.YtpcompnmadpljaaW.PrintWords Go.Proofs.YtpcompnmadpljaaW.PrintLast Go.Proofs.YtpcompnmadpljaaW.PrintMore
attribute [local go_sem] max2_int min2_int max_two min_two max_three min_three max_four min_four   -- for this text's walks alone
set_option linter.unusedVariables false
set_option linter.unusedSimpArgs false

/-! ### spec_l7Run: function 84 -/
mutual
def spec_l7Run.l0 : Nat → List Int → List Int → Int → Int → List (S121) → Option (List Int)
 | 0, _, _, _, _, _ => none
 | k + 1, x1, x5, x6, x236000, x236001 => if x6 < x236000 then (if 0 ≤ x6 then (if x6 < (x1.length : Int) then (if x5.length < 17592186044416 then (spec_l7Run.l0 k x1 (x5 ++ [rd x1 x6]) (wrap64 (x6 + 1)) x236000 x236001) else (none)) else (none)) else (none)) else (spec_l7Run.l1 k x5 0 x236000 x236001)
def spec_l7Run.l1 : Nat → List Int → Int → Int → List (S121) → Option (List Int)
 | 0, _, _, _, _ => none
 | k + 1, x5, x7, x236000, x236001 => if x7 < (x236001.length : Int) then (if 0 ≤ x7 then ((spec_l7Of.f x5 ((rd_T121 x236001 x7).f0)).bind fun t244 => ((spec_l7Of.f x5 ((rd_T121 x236001 x7).f1)).bind fun t246 => (if x5.length < 17592186044416 then (spec_l7Run.l1 k (x5 ++ [wrap64 (t244 * t246)]) (wrap64 (x7 + 1)) x236000 x236001) else (none)))) else (none)) else (some x5)
end
def spec_l7Run.f (k : Nat) (a0_0 : Int) (l0_1 : List (S121)) (l1 : List Int) : Option (List Int) := spec_l7Run.l0 k l1 (([0] : List Int)) 0 a0_0 l0_1
theorem spec_l7Run.mono_l : ∀ k, (∀ y0 y1 y2 y3 y4, LeO (spec_l7Run.l0 k y0 y1 y2 y3 y4) (spec_l7Run.l0 (k + 1) y0 y1 y2 y3 y4)) ∧ (∀ y0 y1 y2 y3, LeO (spec_l7Run.l1 k y0 y1 y2 y3) (spec_l7Run.l1 (k + 1) y0 y1 y2 y3))
 | 0 => ⟨fun _ _ _ _ _ r h => by simp [spec_l7Run.l0] at h, fun _ _ _ _ r h => by simp [spec_l7Run.l1] at h⟩
 | k + 1 => by
  obtain ⟨ih0, ih1⟩ := spec_l7Run.mono_l k
  refine ⟨?_, ?_⟩
  ·intro y0 y1 y2 y3 y4
   unfold spec_l7Run.l0
   repeat' first
   | (with_reducible exact ih0 _ _ _ _ _)
   | (with_reducible exact ih1 _ _ _ _)
   | (with_reducible exact LeO.refl _)
   | (with_reducible exact LeO.none _)
   | (with_reducible refine LeO.ite ?_ ?_)
   | (with_reducible refine LeO.bind ?_ (fun _ => ?_))
   | exact ih0 _ _ _ _ _
   | exact ih1 _ _ _ _
   | exact LeO.none _
   | refine LeO.ite ?_ ?_
   | refine LeO.bind ?_ (fun _ => ?_)
  ·intro y0 y1 y2 y3
   unfold spec_l7Run.l1
   repeat' first
   | (with_reducible exact ih0 _ _ _ _ _)
   | (with_reducible exact ih1 _ _ _ _)
   | (with_reducible exact LeO.refl _)
   | (with_reducible exact LeO.none _)
   | (with_reducible refine LeO.ite ?_ ?_)
   | (with_reducible refine LeO.bind ?_ (fun _ => ?_))
   | exact ih0 _ _ _ _ _
   | exact ih1 _ _ _ _
   | exact LeO.none _
   | refine LeO.ite ?_ ?_
   | refine LeO.bind ?_ (fun _ => ?_)
theorem spec_l7Run.mono : ∀ a0 a1 a2 k, LeO (spec_l7Run.f k a0 a1 a2) (spec_l7Run.f (k + 1) a0 a1 a2) := by
 intro a0 a1 a2 k
 obtain ⟨ih0, ih1⟩ := spec_l7Run.mono_l k
 unfold spec_l7Run.f
 repeat' first
   | (with_reducible exact ih0 _ _ _ _ _)
   | (with_reducible exact ih1 _ _ _ _)
   | (with_reducible exact LeO.refl _)
   | (with_reducible exact LeO.none _)
   | (with_reducible refine LeO.ite ?_ ?_)
   | (with_reducible refine LeO.bind ?_ (fun _ => ?_))
   | exact ih0 _ _ _ _ _
   | exact ih1 _ _ _ _
   | exact LeO.none _
   | refine LeO.ite ?_ ?_
   | refine LeO.bind ?_ (fun _ => ?_)
def spec_l7Run.T9 : Bool × List (List Nat × List Nat) := (true, [([], []), ([], []), ([], []), ([2], [2]), ([], []), ([3, 4], [3, 4]), ([5], [5]), ([6], [6]), ([1, 7], [1, 7]), ([], []), ([], []), ([10], [10]), ([], []), ([11, 12], [11, 12]), ([13], [13]), ([14], [14]), ([9, 15, 8], [9, 15]), ([8, 16], [8, 16]), ([17], [17]), ([0, 18, 16], [0, 18]), ([19, 19, 0, 1, 2, 3, 4, 5, 6, 7, 8, 9, 10, 11, 12, 13, 14, 15, 16, 17, 18, 19], [0, 1, 9, 19])])
def spec_l7Run.B9 : List Nat := [0, 0, 0, 4, 0, 28, 60, 124, 254, 0, 0, 1024, 0, 7168, 15360, 31744, 65534, 131070, 262142, 524287, 1048575]
theorem spec_l7Run.tab9 : rtab .any (opsOf Try.f84 9) = spec_l7Run.T9 := by kernel_rfl
theorem spec_l7Run.bits9 : waitsOk spec_l7Run.T9.2 spec_l7Run.B9 = true := by kernel_rfl
set_option maxHeartbeats 8000000 in
set_option maxRecDepth 100000 in
theorem spec_l7Run.calls (k : Nat) (a0_0 : Int) (A0_1 : Option Addr) (c0_1 : Nat) (l0_1 : List (S121)) (A1 : Option Addr) (c1 : Nat) (l1 : List Int) (r : List Int) (w : World) (hr0_1 : Kd.C k121 w A0_1 l0_1.length l0_1) (hc0_1 : l0_1.length ≤ c0_1) (hr1 : Kd.C (Kd.int .i64) w A1 l1.length l1) (hc1 : l1.length ≤ c1) (h : spec_l7Run.f k a0_0 l0_1 l1 = some r) :
  Calls Try.prog 84 #[.agg #[.int .i64 a0_0, .slice A0_1 l0_1.length c0_1], .slice A1 l1.length c1] w fun e w' => ∃ v0_ : Value, e = .returned (v0_) ∧ Kd.R (Kd.int .i64) 3 w' w.heap.size (fun _ => True) v0_ r ∧ Below w.heap.size w w' := by
 have hu45 := Try.underlying45
 have HR0_1 := Aside0.mk hr0_1
 have HC0_1 := Aside0.mk hc0_1
 clear hr0_1 hc0_1
 have HR1 := Aside0.mk hr1
 have HC1 := Aside0.mk hc1
 clear hr1 hc1
 have HB := Aside0.mk (Below.refl w.heap.size w)
 have H : (spec_l7Run.l0 k l1 (([0] : List Int)) 0 a0_0 l0_1) = some r := h
 clear h
 obtain ⟨y236, hy236⟩ : ∃ y_ : List Int, y_ = (([0] : List Int)) := ⟨_, rfl⟩
 replace H : (spec_l7Run.l0 k l1 y236 0 a0_0 l0_1) = some r := by first | (rw [hy236]; with_reducible exact H) | (have H2_ := (Option.bind_some _ _).symm.trans H; rw [hy236]; with_reducible exact H2_) | (have H2_ := (Option.bind_some _ _).symm.trans H; with_reducible exact H2_) | with_reducible exact H | (rw [hy236]; exact H) | exact H
 have Ny236 := Aside0.mk hy236
 clear hy236
 have H' := Aside0.mk H
 clear H
 go_enter Try.func84, Try.ntmps84
 go_wp2_with (first | ((with_reducible refine gate_dst (N := 2) rfl ?_); refine box_event ?hg (N := 2) ?hd (cs := #[.int .i64 a0_0, .slice A0_1 l0_1.length c0_1]) (t := 45) ?hr ?_; (case hd => rfl); (case hg => rfl); (case hr => first | (go_simp; done) | (go_simp; rfl)); intro gb235 hg w3 hbox hb; have n0_ := Aside0.mk (below_step (by repeat (first | (with_reducible first | exact HB.out | apply bwA | apply bwN | apply bwD) | exact HB.out)) hb); have n1_ := Aside0.mk (hbox); have n2_ := Aside0.mk ((by rw [hg]; exact (below_size (by repeat (first | (with_reducible first | exact HB.out | apply bwA | apply bwN | apply bwD) | exact HB.out))) : w.heap.size ≤ gb235)); have n3_ := Aside0.mk ((by rw [hg]; exact (below_size (by repeat (first | (with_reducible first | exact HB.out | apply bwA | apply bwN | apply bwD) | exact HB.out))) : w.heap.size ≤ gb235)); clear HB; have HB := n0_; have BK235 := n1_; have GW235 := n2_; have GE235 := n3_; clear n0_ n1_ n2_ n3_; clear hb hbox hg) | ((with_reducible refine gate_dst (N := 8) rfl ?_); refine Kd.R_lit (Kd.int .i64) _ 3 ?hg (N := 8) ?hd (xs := ([0] : List Int)) (inner := [.int .i64 0]) (ok := fun _ => True) (okp := fun _ => True) ?hr ?hp (fun _ hk => hk) trivial (Below.refl _ _) (Nat.le_refl _) (by simp) ?_; (case hd => rfl); (case hg => rfl); (case hr => first | (go_simp; done) | (go_simp; rfl)); (case hp => exact (Reps.one (show Kd.M (Kd.int .i64) _ _ _ 0 [.int .i64 0] from rfl) (Reps.none _ _))); intro v237 w4 ho5 hb hg_ hnew_; clear hg_ hnew_; (first | rw [← Ny236.out] at ho5 | (simp only [Int.reduceToNat] at ho5; rw [← Ny236.out] at ho5)); have n0_ := Aside0.mk (Kd.R_lower ho5 (below_size (by repeat (first | (with_reducible first | exact HB.out | apply bwA | apply bwN | apply bwD | refine below_set ?_ GE235.out) | exact HB.out)))); have n1_ := Aside0.mk (blk_below (g := gb235) (o := .cells #[.int .i64 a0_0, .slice A0_1 l0_1.length c0_1] 45 (0, 0)) (bvK BK235.out) hb); have n2_ := Aside0.mk (below_step (by repeat (first | (with_reducible first | exact HB.out | apply bwA | apply bwN | apply bwD | refine below_set ?_ GE235.out) | exact HB.out)) hb); clear BK235; clear HB; have HO238 := n0_; have BK235 := n1_; have HB := n2_; clear n0_ n1_ n2_; clear hb ho5))
 go_loopg [5, 6] k (fun kq v5 v6 w' => ∃ (x5_1 : List Int) (x6_1 : Int), v6 = .int .i64 x6_1 ∧ Aside0 (spec_l7Run.l0 kq l1 x5_1 x6_1 a0_0 l0_1 = some r) ∧ Aside0 (kq ≤ k) ∧ Aside0 (Kd.R (Kd.int .i64) 3 w' w.heap.size (fun _ => True) v5 x5_1) ∧ Aside0 (w'.heap[gb235]? = some (.cells #[.int .i64 a0_0, (.slice A0_1 l0_1.length c0_1)] 45 (0, 0))) ∧ Aside0 (Below w.heap.size w w'))
 case atStart => exact ⟨(y236), (0), rsd, H', ⟨Nat.le_refl _⟩, ⟨rvR HO238.out⟩, ⟨bvK BK235.out⟩, ⟨by repeat (first | (with_reducible first | exact HB.out | apply bwA | apply bwN | apply bwD | refine below_set ?_ GE235.out) | exact HB.out)⟩⟩
 case round =>
  clear H'
  try clear c1
  try clear p2
  obtain ⟨x5_1, x6_1, rfl, HA, HK1, HO_5, BK235, HB⟩ := hrel
  cases gk with
  | zero => exact absurd HA.out (by simp [spec_l7Run.l0])
  | succ k1 =>
   have H := HA.out
   clear HA
   simp only [spec_l7Run.l0] at H
   by_cases c6 : x6_1 < a0_0
   ·rw [if_pos c6] at H
    have c6b0 : decide (x6_1 < a0_0) = true := decide_eq_true c6
    clear c6
    by_cases c7 : 0 ≤ x6_1
    ·rw [if_pos c7] at H
     have c7b0 : decide (0 ≤ x6_1) = true := decide_eq_true c7
     clear c7
     by_cases c8 : x6_1 < (l1.length : Int)
     ·rw [if_pos c8] at H
      have c8b0 : decide (x6_1 < (l1.length : Int)) = true := decide_eq_true c8
      clear c8
      by_cases c9 : x5_1.length < 17592186044416
      ·rw [if_pos c9] at H
       have LMc9 := Aside0.mk c9
       clear c9
       obtain ⟨y240, hy240⟩ : ∃ y_ : List Int, y_ = (x5_1 ++ [rd l1 x6_1]) := ⟨_, rfl⟩
       replace H : (spec_l7Run.l0 k1 l1 y240 (wrap64 (x6_1 + 1)) a0_0 l0_1) = some r := by first | (rw [hy240]; with_reducible exact H) | (have H2_ := (Option.bind_some _ _).symm.trans H; rw [hy240]; with_reducible exact H2_) | (have H2_ := (Option.bind_some _ _).symm.trans H; with_reducible exact H2_) | with_reducible exact H | (rw [hy240]; exact H) | exact H
       have Ny240 := Aside0.mk hy240
       clear hy240
       have H' := Aside0.mk H
       clear H
       have hcz10_0 : wr.cell? ⟨gb235, 0, none⟩ = some (.int .i64 a0_0) := (blk_cell BK235.out 0).trans rfl
       have hcz10_1 : wr.cell? ⟨gb235, 1, none⟩ = some (.slice A0_1 l0_1.length c0_1) := (blk_cell BK235.out 1).trans rfl
       have hfz10_0 := blk_frozen BK235.out 0
       have hfz10_1 := blk_frozen BK235.out 1
       have p239 : 0 ≤ (x6_1 : Int) := oda
       have q239 : x6_1 < (l1.length : Int) := oda
       obtain ⟨ad239, e239, hx239_0⟩ := Kd.at_int HR1.out x6_1 p239 q239
       cases e239
       try replace hx239_0 := bct HB.out hx239_0
       replace p239 := eq_true p239
       replace q239 := eq_true q239
       go_wp2_with (first | ((with_reducible refine gate_builtin (b := .append) (xs := #[.tmp 15, .tmp 20]) rfl ?_); at_builtin; refine Kd.R_append (Kd.int .i64) (w0 := w) w.heap.size rfl (.tmp 15) (.tmp 20) 49 3 (.int .i64 0) 8 rfl Try.underlying49 info3 rfl (by decide) (by omega) u5 x5_1 (rd l1 x6_1) [.int .i64 (rd l1 x6_1)] (fun _ => True) (fun _ => False) rfl rfl ?aP (fun _ hk => hk.elim) ?aF ?aO ?aB ?aS ?aL ?_; (case aP => exact rfl); (case aB => exact (by repeat (first | (with_reducible first | exact HB.out | apply bwA | apply bwN | apply bwD | refine below_set ?_ GE235.out) | exact HB.out))); (case aF => exact (fun _ _ => trivial)); (case aO => exact (rvR HO_5.out)); (case aS => exact (below_size (by repeat (first | (with_reducible first | exact HB.out | apply bwA | apply bwN | apply bwD | refine below_set ?_ GE235.out) | exact HB.out)))); (case aL => have := LMc9.out; omega); intro v241 w11 ho hb hg hat; rw [← Ny240.out] at ho; have n0_ := Aside0.mk (blk_grown (g := gb235) (o := .cells #[.int .i64 a0_0, .slice A0_1 l0_1.length c0_1] 45 (0, 0)) (bvK BK235.out) hg (Kd.R_ne HO_5.out BK235.out (by decide))); have n1_ := Aside0.mk (hb); have n2_ := Aside0.mk (ho); clear BK235; clear HB; clear HO_5; have BK235 := n0_; have HB := n1_; have HO242 := n2_; clear n0_ n1_ n2_; clear ho hb hg hat))
       go_roundg k1
       case measure => have := HK1.out; omega
       case rel => exact ⟨(y240), (wrap64 (x6_1 + 1)), rsd, H', ⟨by have := HK1.out; omega⟩, ⟨rvR HO242.out⟩, ⟨bvK BK235.out⟩, ⟨by repeat (first | (with_reducible first | exact HB.out | apply bwA | apply bwN | apply bwD | refine below_set ?_ GE235.out) | exact HB.out)⟩⟩
      ·rw [if_neg c9] at H
       exact absurd H (by simp)
     ·rw [if_neg c8] at H
      exact absurd H (by simp)
    ·rw [if_neg c7] at H
     exact absurd H (by simp)
   ·rw [if_neg c6] at H
    have c6b0 : decide (x6_1 < a0_0) = false := decide_eq_false c6
    clear c6
    have H' := Aside0.mk H
    clear H
    have hcz12_0 : wr.cell? ⟨gb235, 0, none⟩ = some (.int .i64 a0_0) := (blk_cell BK235.out 0).trans rfl
    have hcz12_1 : wr.cell? ⟨gb235, 1, none⟩ = some (.slice A0_1 l0_1.length c0_1) := (blk_cell BK235.out 1).trans rfl
    have hfz12_0 := blk_frozen BK235.out 0
    have hfz12_1 := blk_frozen BK235.out 1
    go_wp2
    go_loopg [5, 7] k1 (fun kq v5 v7 w' => ∃ (x5_2 : List Int) (x7_2 : Int), v7 = .int .i64 x7_2 ∧ Aside0 (spec_l7Run.l1 kq x5_2 x7_2 a0_0 l0_1 = some r) ∧ Aside0 (kq ≤ k1) ∧ Aside0 (Kd.R (Kd.int .i64) 3 w' w.heap.size (fun _ => True) v5 x5_2) ∧ Aside0 (w'.heap[gb235]? = some (.cells #[.int .i64 a0_0, (.slice A0_1 l0_1.length c0_1)] 45 (0, 0))) ∧ Aside0 (Below w.heap.size w w'))
    case atStart => exact ⟨(x5_1), (0), rsd, H', ⟨Nat.le_refl _⟩, ⟨rvR HO_5.out⟩, ⟨bvK BK235.out⟩, ⟨by repeat (first | (with_reducible first | exact HB.out | apply bwA | apply bwN | apply bwD | refine below_set ?_ GE235.out) | exact HB.out)⟩⟩
    case round =>
     clear H'
     try clear c1
     try clear p2
     try clear q2
     try clear hx2
     try clear c6
     try clear c6b0
     try clear p6
     try clear c7
     try clear c7b0
     try clear c8
     try clear c8b0
     try clear c9
     try clear hcz10_0
     try clear hcz10_1
     try clear hcz12_0
     try clear hcz12_1
     try clear hfz10_0
     try clear hfz10_1
     try clear hfz12_0
     try clear hfz12_1
     try clear hx239_0
     try clear p2
     try clear p239
     try clear q239
     obtain ⟨x5_2, x7_2, rfl, HA, HK2, HO_5, BK235, HB⟩ := hrel
     cases gk with
     | zero => exact absurd HA.out (by simp [spec_l7Run.l1])
     | succ k2 =>
      have H := HA.out
      clear HA
      simp only [spec_l7Run.l1] at H
      by_cases c13 : x7_2 < (l0_1.length : Int)
      ·rw [if_pos c13] at H
       have c13b0 : decide (x7_2 < (l0_1.length : Int)) = true := decide_eq_true c13
       clear c13
       by_cases c14 : 0 ≤ x7_2
       ·rw [if_pos c14] at H
        have c14b0 : decide (0 ≤ x7_2) = true := decide_eq_true c14
        clear c14
        replace H := Option.bind_eq_some_iff.mp H
        obtain ⟨t244, A150, H⟩ := H
        replace H : ((spec_l7Of.f x5_2 ((rd_T121 l0_1 x7_2).f1)).bind fun t246 => (if x5_2.length < 17592186044416 then (spec_l7Run.l1 k2 (x5_2 ++ [wrap64 (t244 * t246)]) (wrap64 (x7_2 + 1)) a0_0 l0_1) else (none))) = some r := H
        have A15 := Aside0.mk A150
        clear A150
        replace H := Option.bind_eq_some_iff.mp H
        obtain ⟨t246, A160, H⟩ := H
        replace H : (if x5_2.length < 17592186044416 then (spec_l7Run.l1 k2 (x5_2 ++ [wrap64 (t244 * t246)]) (wrap64 (x7_2 + 1)) a0_0 l0_1) else (none)) = some r := H
        have A16 := Aside0.mk A160
        clear A160
        by_cases c17 : x5_2.length < 17592186044416
        ·rw [if_pos c17] at H
         have LMc17 := Aside0.mk c17
         clear c17
         obtain ⟨y247, hy247⟩ : ∃ y_ : List Int, y_ = (x5_2 ++ [wrap64 (t244 * t246)]) := ⟨_, rfl⟩
         replace H : (spec_l7Run.l1 k2 y247 (wrap64 (x7_2 + 1)) a0_0 l0_1) = some r := by first | (rw [hy247]; with_reducible exact H) | (have H2_ := (Option.bind_some _ _).symm.trans H; rw [hy247]; with_reducible exact H2_) | (have H2_ := (Option.bind_some _ _).symm.trans H; with_reducible exact H2_) | with_reducible exact H | (rw [hy247]; exact H) | exact H
         have Ny247 := Aside0.mk hy247
         clear hy247
         have H' := Aside0.mk H
         clear H
         have hcz18_0 : wr.cell? ⟨gb235, 0, none⟩ = some (.int .i64 a0_0) := (blk_cell BK235.out 0).trans rfl
         have hcz18_1 : wr.cell? ⟨gb235, 1, none⟩ = some (.slice A0_1 l0_1.length c0_1) := (blk_cell BK235.out 1).trans rfl
         have hfz18_0 := blk_frozen BK235.out 0
         have hfz18_1 := blk_frozen BK235.out 1
         try go_wp2
         have n0_ := Aside0.mk (Kd.R_drew HO_5.out)
         have n1_ := Aside0.mk (blk_drew BK235.out)
         have n2_ := Aside0.mk (below_drew1 HB.out)
         clear HO_5
         clear BK235
         clear HB
         have HO_5 := n0_
         have BK235 := n1_
         have HB := n2_
         clear n0_ n1_ n2_
         have p243 : 0 ≤ (x7_2 : Int) := oda
         have q243 : x7_2 < (l0_1.length : Int) := oda
         obtain ⟨ad243, e243, hx243_0, hx243_1⟩ := at_T121 HR0_1.out x7_2 p243 q243
         have hw243_1 := hx243_1
         have hw243_0 := hx243_0
         cases e243
         try replace hx243_0 := bct HB.out hx243_0
         try replace hx243_1 := bct HB.out hx243_1
         replace p243 := eq_true p243
         replace q243 := eq_true q243
         have p245 : 0 ≤ (x7_2 : Int) := oda
         have q245 : x7_2 < (l0_1.length : Int) := oda
         obtain ⟨ad245, e245, hx245_0, hx245_1⟩ := at_T121 HR0_1.out x7_2 p245 q245
         have hw245_1 := hx245_1
         have hw245_0 := hx245_0
         obtain rfl : ad243 = ad245 := (by injection e245)
         try replace hx245_0 := bct HB.out hx245_0
         try replace hx245_1 := bct HB.out hx245_1
         replace p245 := eq_true p245
         replace q245 := eq_true q245
         obtain ⟨Ao20, co20, eo20⟩ := Kd.R_slice HO_5.out
         (first | subst eo20 | (injection eo20 with f1_ f2_ f3_; have f4_ := f1_.symm; have f5_ := f3_.symm; clear f1_ f2_ f3_; subst f4_; subst f5_))
         refine start_ (n := 21) (S := fun w' => w'.cell? ⟨gb235, 0, none⟩ = some (.int .i64 a0_0) ∧ w'.cell? ⟨gb235, 1, none⟩ = some (.slice (some ad243) l0_1.length c0_1) ∧ w'.cell? (ad243.add ((x7_2).toNat * 2)) = some (.int .i64 ((rd_T121 l0_1 x7_2).f0)) ∧ w'.cell? ⟨(ad243.add ((x7_2).toNat * 2)).block, (ad243.add ((x7_2).toNat * 2)).off + 1, none⟩ = some (.int .i64 ((rd_T121 l0_1 x7_2).f1)) ∧ w'.cell? (ad243.add ((x7_2).toNat * 2)) = some (.int .i64 ((rd_T121 l0_1 x7_2).f0)) ∧ w'.cell? ⟨(ad243.add ((x7_2).toNat * 2)).block, (ad243.add ((x7_2).toNat * 2)).off + 1, none⟩ = some (.int .i64 ((rd_T121 l0_1 x7_2).f1))) (ds := []) (Pt.bm 21 0) (by kernel_rfl) rfl rfl ⟨(blk_cell BK235.out 0).trans rfl, (blk_cell BK235.out 1).trans rfl, ((HB.out.cell (World.block_lt_of_cell? w _ hw243_0)).trans hw243_0), ((HB.out.cell (World.block_lt_of_cell? w _ hw243_1)).trans hw243_1), ((HB.out.cell (World.block_lt_of_cell? w _ hw245_0)).trans hw245_0), ((HB.out.cell (World.block_lt_of_cell? w _ hw245_1)).trans hw245_1)⟩ (fun hHeld => ?_); refine with_tabW spec_l7Run.tab9 spec_l7Run.bits9 (fun HT_ HW_ => ?_)
         generalize wr.drew = w19 at HO_5 BK235 HB hx243_0 hx243_1 hx245_0 hx245_1 hHeld ⊢
         refine Pt.pu 0 (some 29) (Pt.bm 21 1) (any_of HT_.out (by kernel_rfl)) ?_
         refine Pt.pu 1 (some 30) (Pt.bm 21 3) (any_of HT_.out (by kernel_rfl)) ?_
         refine Pt.pu 2 (some 31) (Pt.bm 21 7) (any_of HT_.out (by kernel_rfl)) ?_
         refine Pt.pu 4 (some 33) (Pt.bm 21 23) (any_of HT_.out (by kernel_rfl)) ?_
         refine Pt.pu 9 (some 38) (Pt.bm 21 535) (any_of HT_.out (by kernel_rfl)) ?_
         refine Pt.pu 10 (some 39) (Pt.bm 21 1559) (any_of HT_.out (by kernel_rfl)) ?_
         refine Pt.pu 12 (some 41) (Pt.bm 21 5655) (any_of HT_.out (by kernel_rfl)) ?_
         refine Pt.tk 3 (some 32) (Pt.bm 21 5663) rfl rfl (take_ofW HT_.out HW_.out (by kernel_rfl)) hHeld (Or.inl ⟨by rfl, by rintro w' ⟨s0, s1, s2, s3, s4, s5⟩; go_simp; with_reducible rfl⟩) ?_
         refine Pt.pu 5 (some 34) (Pt.bm 21 5695) (any_of HT_.out (by kernel_rfl)) ?_
         refine Pt.pu 6 (some 35) (Pt.bm 21 5759) (any_of HT_.out (by kernel_rfl)) ?_
         refine Pt.tk 7 (some 36) (Pt.bm 21 5887) rfl rfl (take_ofW HT_.out HW_.out (by kernel_rfl)) hHeld (Or.inl ⟨by rfl, by rintro w' ⟨s0, s1, s2, s3, s4, s5⟩; go_simp; with_reducible rfl⟩) ?_
         refine Pt.tk 11 (some 40) (Pt.bm 21 7935) rfl rfl (take_ofW HT_.out HW_.out (by kernel_rfl)) hHeld (Or.inl ⟨by rfl, by rintro w' ⟨s0, s1, s2, s3, s4, s5⟩; go_simp; with_reducible rfl⟩) ?_
         refine Pt.pu 13 (some 42) (Pt.bm 21 16127) (any_of HT_.out (by kernel_rfl)) ?_
         refine Pt.pu 14 (some 43) (Pt.bm 21 32511) (any_of HT_.out (by kernel_rfl)) ?_
         refine Pt.tk 15 (some 44) (Pt.bm 21 65279) rfl rfl (take_ofW HT_.out HW_.out (by kernel_rfl)) hHeld (Or.inl ⟨by rfl, by rintro w' ⟨s0, s1, s2, s3, s4, s5⟩; go_simp; with_reducible rfl⟩) ?_
         refine one_ (i := 8) (N := some 37) (Pt.bm 21 65535) rfl rfl (one_of HT_.out (by kernel_rfl)) (by decide) (fun K hK => ?_)
         refine goes_ Try.func83 (by kernel_rfl) rfl #[.slice Ao20 x5_2.length co20, .int .i64 ((rd_T121 l0_1 x7_2).f0)] (by rfl) rfl rfl lmB ?_
         with_reducible refine (spec_l7Of.calls _ _ x5_2 ((rd_T121 l0_1 x7_2).f0) t244 _ ?side1 ?side2 A15.out).mono ?_
         (case side1 => repeat (first | exact (Kd.R_reads' HO_5.out).2.2 | (with_reducible refine Kd.C_alloc ?_ _) | (with_reducible refine Kd.C_drewN ?_ _) | (with_reducible refine Kd.C_drew ?_)))
         (case side2 => exact (Kd.R_reads' HO_5.out).2.1)
         rintro e w' ⟨rfl, ⟨nd, rfl⟩⟩
         refine ⟨_, rfl, ?_⟩
         refine hK.out _ _ ⟨(blk_cell BK235.out 0).trans rfl, (blk_cell BK235.out 1).trans rfl, ((HB.out.cell (World.block_lt_of_cell? w _ hw243_0)).trans hw243_0), ((HB.out.cell (World.block_lt_of_cell? w _ hw243_1)).trans hw243_1), ((HB.out.cell (World.block_lt_of_cell? w _ hw245_0)).trans hw245_0), ((HB.out.cell (World.block_lt_of_cell? w _ hw245_1)).trans hw245_1)⟩ (fun hHeld => ?_)
         clear hK K
         refine norm_ (a' := ?_) ?_ ?_
         rotate_left
         ·show Act.put _ (some 37) _ = _
          simp only [Act.put, List.setIfInBounds_toArray, List.set_cons_zero, List.set_cons_succ, i64_w, i32_w]
          rfl
         refine one_ (i := 16) (N := some 45) (Pt.bm 21 131071) rfl rfl (one_of HT_.out (by kernel_rfl)) (by decide) (fun K hK => ?_)
         refine goes_ Try.func83 (by kernel_rfl) rfl #[.slice Ao20 x5_2.length co20, .int .i64 ((rd_T121 l0_1 x7_2).f1)] (by rfl) rfl rfl lmB ?_
         with_reducible refine (spec_l7Of.calls _ _ x5_2 ((rd_T121 l0_1 x7_2).f1) t246 _ ?side1 ?side2 A16.out).mono ?_
         (case side1 => repeat (first | exact (Kd.R_reads' HO_5.out).2.2 | (with_reducible refine Kd.C_alloc ?_ _) | (with_reducible refine Kd.C_drewN ?_ _) | (with_reducible refine Kd.C_drew ?_)))
         (case side2 => exact (Kd.R_reads' HO_5.out).2.1)
         rintro e w' ⟨rfl, ⟨nd, rfl⟩⟩
         refine ⟨_, rfl, ?_⟩
         refine hK.out _ _ ⟨(blk_cell BK235.out 0).trans rfl, (blk_cell BK235.out 1).trans rfl, ((HB.out.cell (World.block_lt_of_cell? w _ hw243_0)).trans hw243_0), ((HB.out.cell (World.block_lt_of_cell? w _ hw243_1)).trans hw243_1), ((HB.out.cell (World.block_lt_of_cell? w _ hw245_0)).trans hw245_0), ((HB.out.cell (World.block_lt_of_cell? w _ hw245_1)).trans hw245_1)⟩ (fun hHeld => ?_)
         clear hK K
         refine norm_ (a' := ?_) ?_ ?_
         rotate_left
         ·show Act.put _ (some 45) _ = _
          simp only [Act.put, List.setIfInBounds_toArray, List.set_cons_zero, List.set_cons_succ, i64_w, i32_w]
          rfl
         refine Pt.pu 17 (some 46) (Pt.bm 21 262143) (any_of HT_.out (by kernel_rfl)) ?_
         refine one_ (i := 18) (N := some 47) (Pt.bm 21 524287) rfl rfl (one_of HT_.out (by kernel_rfl)) (by decide) (fun K hK => ?_)
         refine value_ (w1 := ?_) (v := ?_) (by rfl) rfl ?_ ?_
         rotate_left 2
         ·go_simp
          constructor
          ·rfl
          ·rfl
         refine hK.out _ _ ⟨(blk_cell (blk_alloc BK235.out _) 0).trans rfl, (blk_cell (blk_alloc BK235.out _) 1).trans rfl, (World.cell?_alloc_lt _ _ _ (World.block_lt_of_cell? _ _ (((HB.out.cell (World.block_lt_of_cell? w _ hw243_0)).trans hw243_0)))).trans (((HB.out.cell (World.block_lt_of_cell? w _ hw243_0)).trans hw243_0)), (World.cell?_alloc_lt _ _ _ (World.block_lt_of_cell? _ _ (((HB.out.cell (World.block_lt_of_cell? w _ hw243_1)).trans hw243_1)))).trans (((HB.out.cell (World.block_lt_of_cell? w _ hw243_1)).trans hw243_1)), (World.cell?_alloc_lt _ _ _ (World.block_lt_of_cell? _ _ (((HB.out.cell (World.block_lt_of_cell? w _ hw245_0)).trans hw245_0)))).trans (((HB.out.cell (World.block_lt_of_cell? w _ hw245_0)).trans hw245_0)), (World.cell?_alloc_lt _ _ _ (World.block_lt_of_cell? _ _ (((HB.out.cell (World.block_lt_of_cell? w _ hw245_1)).trans hw245_1)))).trans (((HB.out.cell (World.block_lt_of_cell? w _ hw245_1)).trans hw245_1))⟩ (fun hHeld => ?_)
         clear hK K
         refine norm_ (a' := ?_) ?_ ?_
         rotate_left
         ·show Act.put _ (some 47) _ = _
          simp only [Act.put, List.setIfInBounds_toArray, List.set_cons_zero, List.set_cons_succ, i64_w, i32_w]
          rfl
         refine one_ (i := 19) (N := some 48) (Pt.bm 21 1048575) rfl rfl (one_of HT_.out (by kernel_rfl)) (by decide) (fun K hK => ?_)
         refine Kd.R_append_step (Kd.int .i64) (w0 := w) w.heap.size (by rfl) (.tmp 29) (.tmp 47) 49 3 (.int .i64 0) 8 rfl Try.underlying49 info3 rfl (by decide) (by omega) (.slice Ao20 x5_2.length co20) x5_2 (wrap64 (t244 * t246)) [.int .i64 (wrap64 (t244 * t246))] (fun _ => True) (fun _ => False) rfl rfl ?aP (fun _ hk => hk.elim) ?aF ?aO ?aB ?aS ?aL ?_
         (case aP => exact rfl)
         (case aB => exact (by repeat (first | (with_reducible first | exact HB.out | apply bwA | apply bwN | apply bwD | refine below_set ?_ GE235.out) | exact HB.out)))
         (case aF => exact (fun _ _ => trivial))
         (case aO => exact (rvR HO_5.out))
         (case aS => exact (below_size (by repeat (first | (with_reducible first | exact HB.out | apply bwA | apply bwN | apply bwD | refine below_set ?_ GE235.out) | exact HB.out))))
         (case aL => have := LMc17.out; omega)
         intro v248 w21 ho hb hg hat
         rw [← Ny247.out] at ho
         have n0_ := Aside0.mk (blk_grown (g := gb235) (o := .cells #[.int .i64 a0_0, .slice (some ad243) l0_1.length c0_1] 45 (0, 0)) (bvK BK235.out) hg (Kd.R_ne HO_5.out BK235.out (by decide)))
         have n1_ := Aside0.mk (hb)
         have n2_ := Aside0.mk (ho)
         clear BK235
         clear HB
         clear HO_5
         have BK235 := n0_
         have HB := n1_
         have HO249 := n2_
         clear n0_ n1_ n2_
         clear ho hb hg hat
         refine hK.out _ _ ⟨(blk_cell BK235.out 0).trans rfl, (blk_cell BK235.out 1).trans rfl, ((HB.out.cell (World.block_lt_of_cell? w _ hw243_0)).trans hw243_0), ((HB.out.cell (World.block_lt_of_cell? w _ hw243_1)).trans hw243_1), ((HB.out.cell (World.block_lt_of_cell? w _ hw245_0)).trans hw245_0), ((HB.out.cell (World.block_lt_of_cell? w _ hw245_1)).trans hw245_1)⟩ (fun hHeld => ?_)
         clear hK K
         refine norm_ (a' := ?_) ?_ ?_
         rotate_left
         ·show Act.put _ (some 48) _ = _
          simp only [Act.put, List.setIfInBounds_toArray, List.set_cons_zero, List.set_cons_succ, i64_w, i32_w]
          rfl
         refine Pt.pu 20 (some 5) (Pt.bm 21 2097151) (any_of HT_.out (by kernel_rfl)) ?_
         refine done_ (done_of HT_.out (by kernel_rfl)) ?_
         try go_wp2
         go_roundg k2
         case measure => have := HK1.out; have := HK2.out; omega
         case rel => exact ⟨(y247), (wrap64 (x7_2 + 1)), rsd, H', ⟨by have := HK1.out; have := HK2.out; omega⟩, ⟨rvR HO249.out⟩, ⟨bvK BK235.out⟩, ⟨by repeat (first | (with_reducible first | exact HB.out | apply bwA | apply bwN | apply bwD | refine below_set ?_ GE235.out) | exact HB.out)⟩⟩
        ·rw [if_neg c17] at H
         exact absurd H (by simp)
       ·rw [if_neg c14] at H
        exact absurd H (by simp)
      ·rw [if_neg c13] at H
       have c13b0 : decide (x7_2 < (l0_1.length : Int)) = false := decide_eq_false c13
       clear c13
       obtain rfl := Option.some.inj H
       have hcz22_0 : wr.cell? ⟨gb235, 0, none⟩ = some (.int .i64 a0_0) := (blk_cell BK235.out 0).trans rfl
       have hcz22_1 : wr.cell? ⟨gb235, 1, none⟩ = some (.slice A0_1 l0_1.length c0_1) := (blk_cell BK235.out 1).trans rfl
       have hfz22_0 := blk_frozen BK235.out 0
       have hfz22_1 := blk_frozen BK235.out 1
       go_wp2
       go_ret
       exact ⟨_, ers, by (with_reducible repeat (first | apply Kd.R_alloc | apply Kd.R_drewN | apply Kd.R_drew)); exact HO_5.out, by repeat (first | (with_reducible first | exact HB.out | apply bwA | apply bwN | apply bwD | refine below_set ?_ GE235.out) | exact HB.out)⟩

/-! ### spec_l6Value: function 85 -/
def spec_l6Value.l0 : Nat → Int → List Int → Int → Option (List Int)
 | 0, _, _, _ => none
 | k + 1, x0, x5, x6 => if x6 ≥ 0 then (if 0 ≤ x6 then (if x5.length < 17592186044416 then (spec_l6Value.l0 k x0 (x5 ++ [Int.tmod (shr .i64 x0 x6) 2]) (wrap64 (x6 - 1))) else (none)) else (none)) else (some x5)
def spec_l6Value.f (k : Nat) (a0 : Int) (a1 : Int) : Option (List Int) := spec_l6Value.l0 k a0 (([] : List Int)) (wrap64 (a1 - 1))
theorem spec_l6Value.mono_l : ∀ k, (∀ y0 y1 y2, LeO (spec_l6Value.l0 k y0 y1 y2) (spec_l6Value.l0 (k + 1) y0 y1 y2))
 | 0 => fun _ _ _ r h => by simp [spec_l6Value.l0] at h
 | k + 1 => by
  have ih0 := spec_l6Value.mono_l k
  ·intro y0 y1 y2
   unfold spec_l6Value.l0
   repeat' first
   | (with_reducible exact ih0 _ _ _)
   | (with_reducible exact LeO.refl _)
   | (with_reducible exact LeO.none _)
   | (with_reducible refine LeO.ite ?_ ?_)
   | (with_reducible refine LeO.bind ?_ (fun _ => ?_))
   | exact ih0 _ _ _
   | exact LeO.none _
   | refine LeO.ite ?_ ?_
   | refine LeO.bind ?_ (fun _ => ?_)
theorem spec_l6Value.mono : ∀ a0 a1 k, LeO (spec_l6Value.f k a0 a1) (spec_l6Value.f (k + 1) a0 a1) := by
 intro a0 a1 k
 have ih0 := spec_l6Value.mono_l k
 unfold spec_l6Value.f
 repeat' first
   | (with_reducible exact ih0 _ _ _)
   | (with_reducible exact LeO.refl _)
   | (with_reducible exact LeO.none _)
   | (with_reducible refine LeO.ite ?_ ?_)
   | (with_reducible refine LeO.bind ?_ (fun _ => ?_))
   | exact ih0 _ _ _
   | exact LeO.none _
   | refine LeO.ite ?_ ?_
   | refine LeO.bind ?_ (fun _ => ?_)
set_option maxHeartbeats 8000000 in
set_option maxRecDepth 100000 in
theorem spec_l6Value.calls (k : Nat) (a0 : Int) (a1 : Int) (r : List Int) (w : World) (h : spec_l6Value.f k a0 a1 = some r) :
  Calls Try.prog 85 #[.int .i64 a0, .int .i64 a1] w fun e w' => ∃ v0_ : Value, e = .returned (v0_) ∧ Kd.R (Kd.int .i64) 3 w' w.heap.size (fun _ => True) v0_ r ∧ Below w.heap.size w w' := by
 have HB := Aside0.mk (Below.refl w.heap.size w)
 have H : (spec_l6Value.l0 k a0 (([] : List Int)) (wrap64 (a1 - 1))) = some r := h
 clear h
 obtain ⟨y250, hy250⟩ : ∃ y_ : List Int, y_ = (([] : List Int)) := ⟨_, rfl⟩
 replace H : (spec_l6Value.l0 k a0 y250 (wrap64 (a1 - 1))) = some r := by first | (rw [hy250]; with_reducible exact H) | (have H2_ := (Option.bind_some _ _).symm.trans H; rw [hy250]; with_reducible exact H2_) | (have H2_ := (Option.bind_some _ _).symm.trans H; with_reducible exact H2_) | with_reducible exact H | (rw [hy250]; exact H) | exact H
 have Ny250 := Aside0.mk hy250
 clear hy250
 have H' := Aside0.mk H
 clear H
 go_enter Try.func85, Try.ntmps85
 go_wp2_with (first | ((with_reducible refine gate_dst (N := 7) rfl ?_); refine Kd.R_lit (Kd.int .i64) _ 3 ?hg (N := 7) ?hd (xs := ([] : List Int)) (inner := []) (ok := fun _ => True) (okp := fun _ => True) ?hr ?hp (fun _ hk => hk) trivial (Below.refl _ _) (Nat.le_refl _) (by simp) ?_; (case hd => rfl); (case hg => rfl); (case hr => first | (go_simp; done) | (go_simp; rfl)); (case hp => exact (Reps.none _ _)); intro v251 w3 ho4 hb hg_ hnew_; clear hg_ hnew_; (first | rw [← Ny250.out] at ho4 | (simp only [Int.reduceToNat] at ho4; rw [← Ny250.out] at ho4)); have n0_ := Aside0.mk (Kd.R_lower ho4 (below_size (by repeat (first | (with_reducible first | exact HB.out | apply bwA | apply bwN | apply bwD) | exact HB.out)))); have n1_ := Aside0.mk (below_step (by repeat (first | (with_reducible first | exact HB.out | apply bwA | apply bwN | apply bwD) | exact HB.out)) hb); clear HB; have HO252 := n0_; have HB := n1_; clear n0_ n1_; clear hb ho4))
 go_loopg [5, 6] k (fun kq v5 v6 w' => ∃ (x5_1 : List Int) (x6_1 : Int), v6 = .int .i64 x6_1 ∧ Aside0 (spec_l6Value.l0 kq a0 x5_1 x6_1 = some r) ∧ Aside0 (kq ≤ k) ∧ Aside0 (Kd.R (Kd.int .i64) 3 w' w.heap.size (fun _ => True) v5 x5_1) ∧ Aside0 (Below w.heap.size w w'))
 case atStart => exact ⟨(y250), (wrap64 (a1 - 1)), rsd, H', ⟨Nat.le_refl _⟩, ⟨rvR HO252.out⟩, ⟨by repeat (first | (with_reducible first | exact HB.out | apply bwA | apply bwN | apply bwD) | exact HB.out)⟩⟩
 case round =>
  clear H'
  try clear p2
  obtain ⟨x5_1, x6_1, rfl, HA, HK1, HO_5, HB⟩ := hrel
  cases gk with
  | zero => exact absurd HA.out (by simp [spec_l6Value.l0])
  | succ k1 =>
   have H := HA.out
   clear HA
   simp only [spec_l6Value.l0] at H
   by_cases c5 : x6_1 ≥ 0
   ·rw [if_pos c5] at H
    have c5b0 : decide (0 ≤ x6_1) = true := decide_eq_true c5
    clear c5
    by_cases c6 : 0 ≤ x6_1
    ·rw [if_pos c6] at H
     have c6b0 := eq_true c6
     have c6b1 : decide (0 ≤ x6_1) = true := decide_eq_true c6
     clear c6
     obtain ⟨ji7, hji7⟩ : ∃ j_ : Int, (shr .i64 a0 x6_1) = j_ := ⟨_, rfl⟩
     replace H : (if x5_1.length < 17592186044416 then (spec_l6Value.l0 k1 a0 (x5_1 ++ [Int.tmod (ji7) 2]) (wrap64 (x6_1 - 1))) else (none)) = some r := by first | (rw [hji7] at H; exact H) | (simp only [hji7] at H ⊢; exact H)
     have hji7_ : (a0 / 2 ^ min x6_1.toNat 64) = ji7 := hji7
     have hji7z : x6_1 ≤ 64 → (a0 / 2 ^ x6_1.toNat) = ji7 := shr_small hji7
     by_cases c8 : x5_1.length < 17592186044416
     ·rw [if_pos c8] at H
      have LMc8 := Aside0.mk c8
      clear c8
      obtain ⟨y253, hy253⟩ : ∃ y_ : List Int, y_ = (x5_1 ++ [Int.tmod (ji7) 2]) := ⟨_, rfl⟩
      replace H : (spec_l6Value.l0 k1 a0 y253 (wrap64 (x6_1 - 1))) = some r := by first | (rw [hy253]; with_reducible exact H) | (have H2_ := (Option.bind_some _ _).symm.trans H; rw [hy253]; with_reducible exact H2_) | (have H2_ := (Option.bind_some _ _).symm.trans H; with_reducible exact H2_) | with_reducible exact H | (rw [hy253]; exact H) | exact H
      have Ny253 := Aside0.mk hy253
      clear hy253
      have H' := Aside0.mk H
      clear H
      go_wp2_with (first | ((with_reducible refine gate_builtin (b := .append) (xs := #[.tmp 14, .tmp 19]) rfl ?_); at_builtin; refine Kd.R_append (Kd.int .i64) (w0 := w) w.heap.size rfl (.tmp 14) (.tmp 19) 49 3 (.int .i64 0) 8 rfl Try.underlying49 info3 rfl (by decide) (by omega) u5 x5_1 (Int.tmod (ji7) 2) [.int .i64 (Int.tmod (ji7) 2)] (fun _ => True) (fun _ => False) rfl rfl ?aP (fun _ hk => hk.elim) ?aF ?aO ?aB ?aS ?aL ?_; (case aP => exact rfl); (case aB => exact (by repeat (first | (with_reducible first | exact HB.out | apply bwA | apply bwN | apply bwD) | exact HB.out))); (case aF => exact (fun _ _ => trivial)); (case aO => exact (rvR HO_5.out)); (case aS => exact (below_size (by repeat (first | (with_reducible first | exact HB.out | apply bwA | apply bwN | apply bwD) | exact HB.out)))); (case aL => have := LMc8.out; omega); intro v254 w9 ho hb hg hat; rw [← Ny253.out] at ho; have n0_ := Aside0.mk (hb); have n1_ := Aside0.mk (ho); clear HB; clear HO_5; have HB := n0_; have HO255 := n1_; clear n0_ n1_; clear ho hb hg hat))
      go_roundg k1
      case measure => have := HK1.out; omega
      case rel => exact ⟨(y253), (wrap64 (x6_1 - 1)), rsd, H', ⟨by have := HK1.out; omega⟩, ⟨rvR HO255.out⟩, ⟨by repeat (first | (with_reducible first | exact HB.out | apply bwA | apply bwN | apply bwD) | exact HB.out)⟩⟩
     ·rw [if_neg c8] at H
      exact absurd H (by simp)
    ·rw [if_neg c6] at H
     exact absurd H (by simp)
   ·rw [if_neg c5] at H
    have c5b0 : decide (0 ≤ x6_1) = false := decide_eq_false c5
    clear c5
    obtain rfl := Option.some.inj H
    go_wp2
    go_ret
    exact ⟨_, ers, by (with_reducible repeat (first | apply Kd.R_alloc | apply Kd.R_drewN | apply Kd.R_drew)); exact HO_5.out, by repeat (first | (with_reducible first | exact HB.out | apply bwA | apply bwN | apply bwD) | exact HB.out)⟩

/-! ### spec_l8Add: function 60 -/
def spec_l8Add.f (a0_0 : Int) (l0_1 : List S71) (v lo hi : Int) : Option (Int × List S71 × Int) :=
 if lo < 0 ∨ hi < 0 then some (a0_0, l0_1, -1) else if lo = hi then some (a0_0, l0_1, lo) else if l0_1.length ≤ 1000000000000 then
  match l0_1.findIdx? (fun y => decide (y = ⟨v, lo, hi⟩)) with
  | some i => some (a0_0, l0_1, (i : Int) + 2)
  | none => if 2000 ≤ l0_1.length then some (a0_0, l0_1, -1) else some (a0_0, l0_1 ++ [⟨v, lo, hi⟩], (l0_1.length : Int) + 2)
 else none
theorem spec_l8Add.find_at {l : List S71} {x : S71} {i : Nat} (hi : i < l.length) (h : l[i] = x) (hn : ∀ q (hq : q < l.length), q < i → l[q] ≠ x) : l.findIdx? (fun y => decide (y = x)) = some i := by
 rw [List.findIdx?_eq_some_iff_getElem]
 exact ⟨hi, decide_eq_true h, fun j hj => by simpa using hn j (by omega) hj⟩
theorem spec_l8Add.find_no {l : List S71} {x : S71} (hn : ∀ q (hq : q < l.length), l[q] ≠ x) : l.findIdx? (fun y => decide (y = x)) = none := by
 rw [List.findIdx?_eq_none_iff]
 intro y hy
 obtain ⟨q, hq, rfl⟩ := List.mem_iff_getElem.1 hy
 simpa using hn q hq
theorem k71_E : k71.E = [] := rfl
set_option maxHeartbeats 8000000 in
set_option maxRecDepth 100000 in
theorem spec_l8Add.strong (a0_0 : Int) (ok : Nat → Prop) (u : Value) (l : List S71) (v lo hi r1 : Int) (r2 : List S71) (r3 : Int) (w0 w : World) (hB : Below w0.heap.size w0 w) (ho : Kd.R k71 71 w w0.heap.size ok u l) (hf : ∀ k, w.heap.size ≤ k → ok k) (h : spec_l8Add.f a0_0 l v lo hi = some (r1, r2, r3)) :
  Calls Try.prog 60 #[.agg #[.int .i64 a0_0, u], .int .i64 v, .int .i64 lo, .int .i64 hi] w fun e w' => ∃ v1 : Value, e = .returned (.tuple #[.agg #[.int .i64 r1, v1], .int .i64 r3]) ∧ Kd.R k71 71 w' w0.heap.size ok v1 r2 ∧ Below w0.heap.size w0 w' ∧ Kept w w' (fun k_ => u.ownBlock = some k_) ∧ Ap.Stays k71 71 w0.heap.size w u l w' v1 r2 := by
 have hu25 := Try.underlying25
 have hu71 := Try.underlying71
 obtain ⟨A, c, rfl⟩ := Kd.R_slice ho
 have HR := Aside0.mk ho
 have HB := Aside0.mk hB
 have HF := Aside0.mk hf
 unfold spec_l8Add.f at h
 clear ho hB hf
 by_cases c1 : lo < 0 ∨ hi < 0
 ·rw [if_pos c1] at h
  simp only [Option.some.injEq, Prod.mk.injEq] at h
  obtain ⟨rfl, rfl, rfl⟩ := h
  have key : (decide (lo < 0) = true ∧ True) ∨ (decide (lo < 0) = false ∧ decide (hi < 0) = true) := by
   by_cases c2 : lo < 0
   ·exact .inl ⟨decide_eq_true c2, trivial⟩
   ·exact .inr ⟨decide_eq_false c2, decide_eq_true (by omega)⟩
  clear c1
  rcases key with ⟨e1, e2⟩ | ⟨e1, e2⟩
  all_goals
   go_enter Try.func60, Try.ntmps60
   go_wp2_with (first | ((with_reducible refine gate_dst (N := 4) rfl ?_); refine box_event ?hg (N := 4) ?hd (cs := #[.int .i64 a0_0, .slice A l.length c]) (t := 25) ?hr ?_; (case hd => rfl); (case hg => rfl); (case hr => first | (go_simp; done) | (go_simp; rfl)); intro g0 hg0 w1 hbox hb; have BD1 := Aside0.mk hbox; have HB1 := Aside0.mk hb; have GD := Aside0.mk (show w.heap.size ≤ g0 from Nat.le_of_eq hg0.symm); clear hg0 hbox hb) | ((with_reducible refine gate_dst (N := 8) rfl ?_); refine box_event ?hg (N := 8) ?hd (cs := #[.int .i64 0, .slice none 0 0]) (t := 25) ?hr ?_; (case hd => rfl); (case hg => rfl); (case hr => first | (go_simp; done) | (go_simp; rfl)); intro gr hgr w2 hbox hb; have GR := Aside0.mk (show w.heap.size ≤ gr by rw [hgr]; exact HB1.out.size); have BR2 := Aside0.mk hbox; have GRD := Aside0.mk (show gr ≠ g0 from fun e_ => by have := blk_lt BD1.out; omega); have BD2 := Aside0.mk (blk_below BD1.out hb); have HB2 := Aside0.mk (below_step HB1.out hb); have d20 : w2.cell? ⟨g0, 0, none⟩ = some (.int .i64 a0_0) := (blk_cell BD2.out 0).trans rfl; have d21 : w2.cell? ⟨g0, 1, none⟩ = some (.slice A l.length c) := (blk_cell BD2.out 1).trans rfl; have r20 : w2.cell? ⟨gr, 0, none⟩ = some (.int .i64 0) := (blk_cell BR2.out 0).trans rfl; have r21 : w2.cell? ⟨gr, 1, none⟩ = some (.slice none 0 0) := (blk_cell BR2.out 1).trans rfl; have q20 := blk_frozen BR2.out 0; have q21 := blk_frozen BR2.out 1; clear hgr hbox hb))
   have HE := below_set (below_set HB2.out GR.out (j := 0) (v := .int .i64 a0_0)) GR.out (j := 1) (v := .slice A l.length c)
   refine bodyPost_ret (results_ct rfl _ _ gr 25 #[.int .i64 a0_0, .slice A l.length c] (0, 0) _ rfl (blk_put (blk_put BR2.out 0 _ rfl) 1 _ rfl) Try.underlying25 rfl (by kernel_rfl)) rfl ?_
   exact ⟨_, rfl, Kd.R_below HR.out HE, below_then HB.out HB.out.size HE, Kept.of_below HE _, Ap.Stays.refl HE⟩
 rw [if_neg c1] at h
 have e1 : decide (lo < 0) = false := decide_eq_false (by omega)
 have e2 : decide (hi < 0) = false := decide_eq_false (by omega)
 clear c1
 by_cases c2 : lo = hi
 ·rw [if_pos c2] at h
  simp only [Option.some.injEq, Prod.mk.injEq] at h
  obtain ⟨rfl, rfl, rfl⟩ := h
  have e3 : (lo == hi) = true := beq_iff_eq.mpr c2
  clear c2
  go_enter Try.func60, Try.ntmps60
  go_wp2_with (first | ((with_reducible refine gate_dst (N := 4) rfl ?_); refine box_event ?hg (N := 4) ?hd (cs := #[.int .i64 a0_0, .slice A l.length c]) (t := 25) ?hr ?_; (case hd => rfl); (case hg => rfl); (case hr => first | (go_simp; done) | (go_simp; rfl)); intro g0 hg0 w1 hbox hb; have BD1 := Aside0.mk hbox; have HB1 := Aside0.mk hb; have GD := Aside0.mk (show w.heap.size ≤ g0 from Nat.le_of_eq hg0.symm); clear hg0 hbox hb) | ((with_reducible refine gate_dst (N := 8) rfl ?_); refine box_event ?hg (N := 8) ?hd (cs := #[.int .i64 0, .slice none 0 0]) (t := 25) ?hr ?_; (case hd => rfl); (case hg => rfl); (case hr => first | (go_simp; done) | (go_simp; rfl)); intro gr hgr w2 hbox hb; have GR := Aside0.mk (show w.heap.size ≤ gr by rw [hgr]; exact HB1.out.size); have BR2 := Aside0.mk hbox; have GRD := Aside0.mk (show gr ≠ g0 from fun e_ => by have := blk_lt BD1.out; omega); have BD2 := Aside0.mk (blk_below BD1.out hb); have HB2 := Aside0.mk (below_step HB1.out hb); have d20 : w2.cell? ⟨g0, 0, none⟩ = some (.int .i64 a0_0) := (blk_cell BD2.out 0).trans rfl; have d21 : w2.cell? ⟨g0, 1, none⟩ = some (.slice A l.length c) := (blk_cell BD2.out 1).trans rfl; have r20 : w2.cell? ⟨gr, 0, none⟩ = some (.int .i64 0) := (blk_cell BR2.out 0).trans rfl; have r21 : w2.cell? ⟨gr, 1, none⟩ = some (.slice none 0 0) := (blk_cell BR2.out 1).trans rfl; have q20 := blk_frozen BR2.out 0; have q21 := blk_frozen BR2.out 1; clear hgr hbox hb))
  have HE := below_set (below_set HB2.out GR.out (j := 0) (v := .int .i64 a0_0)) GR.out (j := 1) (v := .slice A l.length c)
  refine bodyPost_ret (results_ct rfl _ _ gr 25 #[.int .i64 a0_0, .slice A l.length c] (0, 0) _ rfl (blk_put (blk_put BR2.out 0 _ rfl) 1 _ rfl) Try.underlying25 rfl (by kernel_rfl)) rfl ?_
  exact ⟨_, rfl, Kd.R_below HR.out HE, below_then HB.out HB.out.size HE, Kept.of_below HE _, Ap.Stays.refl HE⟩
 rw [if_neg c2] at h
 have e3 : (lo == hi) = false := beq_eq_false_iff_ne.mpr c2
 clear c2
 by_cases c3 : l.length ≤ 1000000000000
 ·rw [if_pos c3] at h
  have C3 := Aside0.mk c3
  have H := Aside0.mk h
  clear c3 h
  go_enter Try.func60, Try.ntmps60
  go_wp2_with (first | ((with_reducible refine gate_dst (N := 4) rfl ?_); refine box_event ?hg (N := 4) ?hd (cs := #[.int .i64 a0_0, .slice A l.length c]) (t := 25) ?hr ?_; (case hd => rfl); (case hg => rfl); (case hr => first | (go_simp; done) | (go_simp; rfl)); intro g0 hg0 w1 hbox hb; have BD1 := Aside0.mk hbox; have HB1 := Aside0.mk hb; have GD := Aside0.mk (show w.heap.size ≤ g0 from Nat.le_of_eq hg0.symm); clear hg0 hbox hb) | ((with_reducible refine gate_dst (N := 8) rfl ?_); refine box_event ?hg (N := 8) ?hd (cs := #[.int .i64 0, .slice none 0 0]) (t := 25) ?hr ?_; (case hd => rfl); (case hg => rfl); (case hr => first | (go_simp; done) | (go_simp; rfl)); intro gr hgr w2 hbox hb; have GR := Aside0.mk (show w.heap.size ≤ gr by rw [hgr]; exact HB1.out.size); have BR2 := Aside0.mk hbox; have GRD := Aside0.mk (show gr ≠ g0 from fun e_ => by have := blk_lt BD1.out; omega); have BD2 := Aside0.mk (blk_below BD1.out hb); have HB2 := Aside0.mk (below_step HB1.out hb); have d20 : w2.cell? ⟨g0, 0, none⟩ = some (.int .i64 a0_0) := (blk_cell BD2.out 0).trans rfl; have d21 : w2.cell? ⟨g0, 1, none⟩ = some (.slice A l.length c) := (blk_cell BD2.out 1).trans rfl; have r20 : w2.cell? ⟨gr, 0, none⟩ = some (.int .i64 0) := (blk_cell BR2.out 0).trans rfl; have r21 : w2.cell? ⟨gr, 1, none⟩ = some (.slice none 0 0) := (blk_cell BR2.out 1).trans rfl; have q20 := blk_frozen BR2.out 0; have q21 := blk_frozen BR2.out 1; clear hgr hbox hb) | ((with_reducible refine gate_dst (N := 10) rfl ?_); refine box_event ?hg (N := 10) ?hd (cs := #[.int .i64 0, .int .i64 0, .int .i64 0]) (t := 71) ?hr ?_; (case hd => rfl); (case hg => rfl); (case hr => first | (go_simp; done) | (go_simp; rfl)); intro gb hgb w3 hbox hb; have BX3 := Aside0.mk hbox; have BD3 := Aside0.mk (blk_below BD2.out hb); have BR3 := Aside0.mk (blk_below BR2.out hb); have HB3 := Aside0.mk (below_step HB2.out hb); have GB := Aside0.mk (And.intro (show w.heap.size ≤ gb by rw [hgb]; exact HB2.out.size) (And.intro (show gr ≠ gb from fun e_ => by have := blk_lt BR2.out; omega) (show g0 ≠ gb from fun e_ => by have := blk_lt BD2.out; omega))); have z30 : w3.cell? ⟨gb, 0, none⟩ = some (.int .i64 0) := (blk_cell BX3.out 0).trans rfl; have z31 : w3.cell? ⟨gb, 1, none⟩ = some (.int .i64 0) := (blk_cell BX3.out 1).trans rfl; have z32 : w3.cell? ⟨gb, 2, none⟩ = some (.int .i64 0) := (blk_cell BX3.out 2).trans rfl; have y30 := blk_frozen BX3.out 0; have y31 := blk_frozen BX3.out 1; have y32 := blk_frozen BX3.out 2; clear hgb hbox hb))
  have n0 := Aside0.mk (below_set (below_set (below_set HB3.out GB.out.1 (j := 0) (v := .int .i64 v)) GB.out.1 (j := 1) (v := .int .i64 lo)) GB.out.1 (j := 2) (v := .int .i64 hi))
  have n1 := Aside0.mk (blk_put (blk_put (blk_put BX3.out 0 (.int .i64 v) rfl) 1 (.int .i64 lo) rfl) 2 (.int .i64 hi) rfl)
  have n2 := Aside0.mk (blk_far (p := ⟨gb, 2, none⟩) (blk_far (p := ⟨gb, 1, none⟩) (blk_far (p := ⟨gb, 0, none⟩) BD3.out GB.out.2.2 (.int .i64 v)) GB.out.2.2 (.int .i64 lo)) GB.out.2.2 (.int .i64 hi))
  have n3 := Aside0.mk (blk_far (p := ⟨gb, 2, none⟩) (blk_far (p := ⟨gb, 1, none⟩) (blk_far (p := ⟨gb, 0, none⟩) BR3.out GB.out.2.1 (.int .i64 v)) GB.out.2.1 (.int .i64 lo)) GB.out.2.1 (.int .i64 hi))
  generalize (((w3.setCell ⟨gb, 0, none⟩ (.int .i64 v)).setCell ⟨gb, 1, none⟩ (.int .i64 lo)).setCell ⟨gb, 2, none⟩ (.int .i64 hi)) = w4 at n0 n1 n2 n3 ⊢
  clear z30 z31 z32 y30 y31 y32 BX3 BD3 BR3 HB3
  go_loopg [11] l.length (fun gg s11 wr => ∃ (i : Nat), s11 = .int .i64 (i : Int) ∧ Aside0 (i + gg = l.length) ∧ Aside0 (∀ q (hq : q < l.length), q < i → l[q] ≠ ⟨v, lo, hi⟩) ∧ Aside0 (Below w.heap.size w wr) ∧ Aside0 (wr.heap[gb]? = some (.cells #[.int .i64 v, .int .i64 lo, .int .i64 hi] 71 (0, 0))) ∧ Aside0 (wr.heap[g0]? = some (.cells #[.int .i64 a0_0, .slice A l.length c] 25 (0, 0))) ∧ Aside0 (wr.heap[gr]? = some (.cells #[.int .i64 0, .slice none 0 0] 25 (0, 0))))
  case atStart => exact ⟨0, rfl, ⟨by omega⟩, ⟨fun q hq h0 => absurd h0 (by omega)⟩, n0, n1, n2, n3⟩
  case round =>
   clear n0 n1 n2 n3
   obtain ⟨i, rfl, HI, HN, HB5, BX5, BD5, BR5⟩ := hrel
   have d51 : wr.cell? ⟨g0, 1, none⟩ = some (.slice A l.length c) := (blk_cell BD5.out 1).trans rfl
   by_cases c4 : i < l.length
   ·obtain ⟨k1, rfl⟩ : ∃ k1, gk = k1 + 1 := ⟨gk - 1, by have := HI.out; omega⟩
    have c4a : (i : Int) < (l.length : Int) := by omega
    have c4b : decide ((i : Int) < (l.length : Int)) = true := decide_eq_true c4a
    have c4c : (0 : Int) ≤ (i : Int) := by omega
    have c4d : decide ((0 : Int) ≤ (i : Int)) = true := decide_eq_true c4c
    have HR5 := Aside0.mk (Kd.R_below HR.out HB5.out)
    go_wp2
    obtain ⟨ad, rfl, hx0, hx1, hx2⟩ := at_T71 (Kd.R_reads' (Kd.R_drew HR5.out)).2.2 (i : Int) c4c c4a
    have hget : rd_T71 l (i : Int) = l[i] := by unfold rd_T71; rw [List.getD_eq_getElem?_getD, Int.toNat_natCast, List.getElem?_eq_getElem c4]; rfl
    simp only [Int.toNat_natCast, hget] at hx0 hx1 hx2
    refine start_ (n := 7) (S := fun w' => w'.cell? ⟨g0, 1, none⟩ = some (.slice (some ad) l.length c) ∧ w'.cell? ⟨gb, 0, none⟩ = some (.int .i64 v) ∧ w'.cell? ⟨gb, 1, none⟩ = some (.int .i64 lo) ∧ w'.cell? ⟨gb, 2, none⟩ = some (.int .i64 hi) ∧ w'.cell? (ad.add (i * 3)) = some (.int .i64 l[i].f0) ∧ w'.cell? ⟨(ad.add (i * 3)).block, (ad.add (i * 3)).off + 1, none⟩ = some (.int .i64 l[i].f1) ∧ w'.cell? ⟨(ad.add (i * 3)).block, (ad.add (i * 3)).off + 2, none⟩ = some (.int .i64 l[i].f2)) (ds := []) (Pt.bm 7 0) (by kernel_rfl) rfl rfl ⟨(blk_cell BD5.out 1).trans rfl, (blk_cell BX5.out 0).trans rfl, (blk_cell BX5.out 1).trans rfl, (blk_cell BX5.out 2).trans rfl, hx0, hx1, hx2⟩ (fun hHeld => ?_)
    have HB6 := Aside0.mk (below_step HB5.out (below_drew (Below.refl _ _)))
    have BX6 := Aside0.mk (blk_drew BX5.out)
    have BD6 := Aside0.mk (blk_drew BD5.out)
    have BR6 := Aside0.mk (blk_drew BR5.out)
    clear d51 hx0 hx1 hx2 HB5 BX5 BD5 BR5 HR5
    generalize wr.drew = w6 at HB6 BX6 BD6 BR6 hHeld ⊢
    refine Pt.pu 0 (some 35) (Pt.bm 7 1) (by kernel_rfl) ?_
    refine Pt.tk 1 (some 36) (Pt.bm 7 3) rfl rfl (by kernel_rfl) hHeld (Or.inl ⟨by rfl, by rintro w' ⟨s0, s1, s2, s3, s4, s5, s6⟩; go_simp; with_reducible rfl⟩) ?_
    refine Pt.pu 2 (some 37) (Pt.bm 7 7) (by kernel_rfl) ?_
    refine Pt.pu 3 (some 38) (Pt.bm 7 15) (by kernel_rfl) ?_
    refine Pt.tk 4 (some 39) (Pt.bm 7 31) rfl rfl (by kernel_rfl) hHeld (Or.inl ⟨by rfl, by rintro w' ⟨s0, s1, s2, s3, s4, s5, s6⟩; go_simp; with_reducible rfl⟩) ?_
    refine Pt.tk 5 (some 40) (Pt.bm 7 63) rfl rfl (by kernel_rfl) hHeld (Or.inl ⟨by rfl, by rintro w' ⟨s0, s1, s2, s3, s4, s5, s6⟩; go_simp; with_reducible rfl⟩) ?_
    by_cases c5 : l[i] = ⟨v, lo, hi⟩
    ·have H2 := H.out
     rw [spec_l8Add.find_at c4 c5 HN.out] at H2
     refine Pt.pu 6 (some 41) (v := .bool true) (Pt.bm 7 127) (by kernel_rfl) ?_ (hy := Or.inl ⟨by rfl, by
      intro w'
      go_simp
      try simp [c5]⟩)
     refine done_ (by kernel_rfl) ?_
     clear hHeld
     have d60 : w6.cell? ⟨g0, 0, none⟩ = some (.int .i64 a0_0) := (blk_cell BD6.out 0).trans rfl
     have d61 : w6.cell? ⟨g0, 1, none⟩ = some (.slice (some ad) l.length c) := (blk_cell BD6.out 1).trans rfl
     simp only [Option.some.injEq, Prod.mk.injEq] at H2
     obtain ⟨rfl, rfl, rfl⟩ := H2
     have hw1 : wrap64 ((i : Int) + 2) = (i : Int) + 2 := by have := C3.out; unfold wrap64; omega
     have hw1' : (IntKind.i64.wrap ((i : Int) + 2)) = (i : Int) + 2 := (i64_w _).trans hw1
     have r60 : w6.cell? ⟨gr, 0, none⟩ = some (.int .i64 0) := (blk_cell BR6.out 0).trans rfl
     have r61 : w6.cell? ⟨gr, 1, none⟩ = some (.slice none 0 0) := (blk_cell BR6.out 1).trans rfl
     have q60 := blk_frozen BR6.out 0
     have q61 := blk_frozen BR6.out 1
     clear c5
     go_wp2
     have HE := below_set (below_set HB6.out GR.out (j := 0) (v := .int .i64 a0_0)) GR.out (j := 1) (v := .slice (some ad) l.length c)
     refine bodyPost_ret (results_ct rfl _ _ gr 25 #[.int .i64 a0_0, .slice (some ad) l.length c] (0, 0) _ rfl (blk_put (blk_put BR6.out 0 _ rfl) 1 _ rfl) Try.underlying25 rfl (by kernel_rfl)) rfl ?_
     exact ⟨_, rfl, Kd.R_below HR.out HE, below_then HB.out HB.out.size HE, Kept.of_below HE _, Ap.Stays.refl HE⟩
    ·skip
     refine Pt.pu 6 (some 41) (v := .bool false) (Pt.bm 7 127) (by kernel_rfl) ?_ (hy := Or.inl ⟨by rfl, by
      intro w'
      go_simp
      revert c5
      generalize l[i] = x
      obtain ⟨x0, x1, x2⟩ := x
      intro c5
      by_cases q0 : x0 = v <;> by_cases q1 : x1 = lo <;> by_cases q2 : x2 = hi <;> simp_all⟩)
     refine done_ (by kernel_rfl) ?_
     clear hHeld
     have d60 : w6.cell? ⟨g0, 0, none⟩ = some (.int .i64 a0_0) := (blk_cell BD6.out 0).trans rfl
     have d61 : w6.cell? ⟨g0, 1, none⟩ = some (.slice (some ad) l.length c) := (blk_cell BD6.out 1).trans rfl
     have hw1 : wrap64 ((i : Int) + 1) = (i : Int) + 1 := by have := C3.out; unfold wrap64; omega
     have hw1' : (IntKind.i64.wrap ((i : Int) + 1)) = (i : Int) + 1 := (i64_w _).trans hw1
     have C5 := Aside0.mk c5
     clear c5
     go_wp2
     go_roundg k1
     case measure => exact Nat.lt_succ_self _
     case rel => exact ⟨i + 1, by first | rfl | (simp only [Int.natCast_add]; rfl) | simp [hw1, hw1'], ⟨by have := HI.out; omega⟩, ⟨fun q hq hqi => by
      by_cases e_ : q = i
      ·subst e_
       exact C5.out
      ·exact HN.out q hq (by omega)⟩, HB6, BX6, BD6, BR6⟩
   ·have hi : i = l.length := by have := HI.out; omega
    subst hi
    have hfn := spec_l8Add.find_no (fun q hq => HN.out q hq hq)
    have H2 := H.out
    rw [hfn] at H2
    have c4b : decide ((l.length : Int) < (l.length : Int)) = false := decide_eq_false (by omega)
    by_cases c6 : 2000 ≤ l.length
    ·simp only [if_pos c6, Option.some.injEq, Prod.mk.injEq] at H2
     obtain ⟨rfl, rfl, rfl⟩ := H2
     have c6b : decide (2000 ≤ (l.length : Int)) = true := decide_eq_true (by omega)
     have d50 : wr.cell? ⟨g0, 0, none⟩ = some (.int .i64 a0_0) := (blk_cell BD5.out 0).trans rfl
     have r50 : wr.cell? ⟨gr, 0, none⟩ = some (.int .i64 0) := (blk_cell BR5.out 0).trans rfl
     have r51 : wr.cell? ⟨gr, 1, none⟩ = some (.slice none 0 0) := (blk_cell BR5.out 1).trans rfl
     have q50 := blk_frozen BR5.out 0
     have q51 := blk_frozen BR5.out 1
     clear c6
     go_wp2
     have HE := below_set (below_set HB5.out GR.out (j := 0) (v := .int .i64 a0_0)) GR.out (j := 1) (v := .slice A l.length c)
     refine bodyPost_ret (results_ct rfl _ _ gr 25 #[.int .i64 a0_0, .slice A l.length c] (0, 0) _ rfl (blk_put (blk_put BR5.out 0 _ rfl) 1 _ rfl) Try.underlying25 rfl (by kernel_rfl)) rfl ?_
     exact ⟨_, rfl, Kd.R_below HR.out HE, below_then HB.out HB.out.size HE, Kept.of_below HE _, Ap.Stays.refl HE⟩
    ·simp only [if_neg c6, Option.some.injEq, Prod.mk.injEq] at H2
     obtain ⟨rfl, rfl, rfl⟩ := H2
     have c6b : decide (2000 ≤ (l.length : Int)) = false := decide_eq_false (by omega)
     have C6 := Aside0.mk c6
     have HR5 := Aside0.mk (Kd.R_below HR.out HB5.out)
     have x50 : wr.cell? ⟨gb, 0, none⟩ = some (.int .i64 v) := (blk_cell BX5.out 0).trans rfl
     have x51 : wr.cell? ⟨gb, 1, none⟩ = some (.int .i64 lo) := (blk_cell BX5.out 1).trans rfl
     have x52 : wr.cell? ⟨gb, 2, none⟩ = some (.int .i64 hi) := (blk_cell BX5.out 2).trans rfl
     have d50 : wr.cell? ⟨g0, 0, none⟩ = some (.int .i64 a0_0) := (blk_cell BD5.out 0).trans rfl
     have qd1 := blk_frozen BD5.out 1
     clear c6
     obtain ⟨y, hy⟩ : ∃ y, y = l ++ [(⟨v, lo, hi⟩ : S71)] := ⟨_, rfl⟩
     have hyl : y.length = l.length + 1 := by rw [hy]; simp
     have HY := Aside0.mk hy
     have HYL := Aside0.mk hyl
     clear hy hyl
     go_wp2_with ((with_reducible refine gate_builtin (b := .append) (xs := #[.tmp 51, .tmp 53]) rfl ?_); at_builtin; refine Ap.R_append k71 k71_E (w0 := w0) w0.heap.size rfl (.tmp 51) (.tmp 53) 23 71 (.agg #[(.int .i64 0), (.int .i64 0), (.int .i64 0)]) 24 rfl Try.underlying23 info71 rfl (by decide) (by omega) (.slice A l.length c) l (⟨v, lo, hi⟩ : S71) [.int .i64 v, .int .i64 lo, .int .i64 hi] ok rfl rfl (k71_mkM _ _ _ (⟨v, lo, hi⟩ : S71)) (fun k hk => HF.out k (Nat.le_trans HB5.out.size hk)) HR5.out (below_then HB.out HB.out.size HB5.out) (Nat.le_trans HB.out.size HB5.out.size) (by have := C6.out; omega) ?_; intro v1 w7 ho7 hb7 hg7 _ hs7; obtain ⟨A7, c7, e7⟩ := Kd.R_slice ho7; subst e7; rw [← HY.out] at ho7 hs7 ⊢; have NE7 := Aside0.mk (Kd.R_ne HR5.out BD5.out (by decide)); have NR7 := Aside0.mk (Kd.R_ne HR5.out BR5.out (by decide)); have BD7 := Aside0.mk (blk_grown BD5.out hg7 NE7.out); have BR7 := Aside0.mk (blk_grown BR5.out hg7 NR7.out); have HO7 := Aside0.mk ho7; have HB7 := Aside0.mk hb7; have HK7 := Aside0.mk (Kept.of_grown hg7 (Kept.of_below HB5.out (fun k_ => (Value.slice A l.length c).ownBlock = some k_)) (fun k hk => .inl hk)); have HS7 := Aside0.mk (hs7.from_ HB5.out); have GS7 := Aside0.mk (Nat.le_trans HB5.out.size hg7.size); have d70 : w7.cell? ⟨g0, 0, none⟩ = some (.int .i64 a0_0) := (blk_cell BD7.out 0).trans rfl; have d71 : w7.cell? ⟨g0, 1, none⟩ = some (.slice A l.length c) := (blk_cell BD7.out 1).trans rfl; have qd7 := blk_frozen BD7.out 1; clear ho7 hb7 hg7 hs7)
     have hlw : wrap64 ((y.length : Int) + 1) = (l.length : Int) + 2 := by have := C6.out; have := HYL.out; unfold wrap64; omega
     have hlw' : (IntKind.i64.wrap ((y.length : Int) + 1)) = (l.length : Int) + 2 := (i64_w _).trans hlw
     have n0 := Aside0.mk (blk_put (cs' := #[.int .i64 a0_0, .slice A7 y.length c7]) BD7.out 1 (.slice A7 y.length c7) rfl)
     have n1 := Aside0.mk (blk_far (p := ⟨g0, 1, none⟩) BR7.out (GRD.out) (.slice A7 y.length c7))
     have n2 := Aside0.mk (Kd.R_set HO7.out BD7.out (by decide) 1 (.slice A7 y.length c7))
     have n3 := Aside0.mk (HB7.out.setCell (p := ⟨g0, 1, none⟩) (Nat.le_trans HB.out.size GD.out) (.slice A7 y.length c7))
     have n4 := Aside0.mk (HK7.out.setCell (p := ⟨g0, 1, none⟩) (.inr GD.out) (.slice A7 y.length c7))
     have n5 : Aside0 (Ap.Stays k71 71 w0.heap.size w (.slice A l.length c) l (w7.setCell ⟨g0, 1, none⟩ (.slice A7 y.length c7)) (.slice A7 y.length c7) y) := ⟨fun ok0 u0 xs0 h0 hp => by
      obtain ⟨q1, q2⟩ := HS7.out ok0 u0 xs0 h0 hp
      exact ⟨Kd.R_set q1 BD7.out (by decide) 1 _, q2⟩⟩
     clear d70 d71 qd7 BD7 BR7 HO7 HB7 HK7 HS7
     generalize (w7.setCell ⟨g0, 1, none⟩ (.slice A7 y.length c7)) = w8 at n0 n1 n2 n3 n4 n5 ⊢
     refine start_ (n := 7) (S := fun w' => w'.cell? ⟨g0, 0, none⟩ = some (.int .i64 a0_0) ∧ w'.cell? ⟨g0, 1, none⟩ = some (.slice A7 y.length c7)) (ds := []) (Pt.bm 7 0) (by kernel_rfl) rfl rfl ⟨(blk_cell n0.out 0).trans rfl, (blk_cell n0.out 1).trans rfl⟩ (fun hHeld => ?_)
     have m1 := Aside0.mk (blk_drew n1.out)
     have m2 := Aside0.mk (Kd.R_drew n2.out)
     have m3 := Aside0.mk (below_drew n3.out)
     have m4 := Aside0.mk n4.out.drew
     have m5 := Aside0.mk (n5.out.below (below_drew (Below.refl _ _)))
     clear n0 n1 n2 n3 n4 n5
     generalize w8.drew = w9 at m1 m2 m3 m4 m5 hHeld ⊢
     refine Pt.tk 0 (some 56) (Pt.bm 7 1) rfl rfl (by kernel_rfl) hHeld (Or.inl ⟨by rfl, by rintro w' ⟨s0, s1⟩; go_simp; with_reducible rfl⟩) ?_
     refine Pt.pu 1 (some 57) (Pt.bm 7 3) (by kernel_rfl) ?_
     refine Pt.tk 2 (some 58) (Pt.bm 7 7) rfl rfl (by kernel_rfl) hHeld (Or.inl ⟨by rfl, by rintro w' ⟨s0, s1⟩; go_simp; with_reducible rfl⟩) ?_
     refine Pt.pu 3 (some 59) (Pt.bm 7 15) (by kernel_rfl) ?_
     refine Pt.pu 4 (some 60) (Pt.bm 7 31) (by kernel_rfl) ?_
     refine one_ (i := 5) (N := none) (Pt.bm 7 63) rfl rfl (by kernel_rfl) (by decide) (fun K hK => ?_)
     have hs0 : w9.cell? ⟨gr, 0, none⟩ = some (.int .i64 0) := (blk_cell m1.out 0).trans rfl
     have hs1 : w9.cell? ⟨gr, 1, none⟩ = some (.slice none 0 0) := (blk_cell m1.out 1).trans rfl
     have hfs0 := blk_frozen m1.out 0
     have hfs1 := blk_frozen m1.out 1
     refine skip_ (w1 := ?_) (by rfl) rfl ?_ ?_
     rotate_left
     ·go_simp
      rfl
     refine hK.out _ _ ⟨((cell_far (p := ⟨gr, _, none⟩) GRD.out.symm _).trans ((cell_far (p := ⟨gr, _, none⟩) GRD.out.symm _).trans hHeld.1)), ((cell_far (p := ⟨gr, _, none⟩) GRD.out.symm _).trans ((cell_far (p := ⟨gr, _, none⟩) GRD.out.symm _).trans hHeld.2))⟩ (fun hHeld => ?_)
     clear hK K hs0 hs1 hfs0 hfs1
     refine Pt.pu 6 (some 9) (Pt.bm 7 127) (by kernel_rfl) ?_
     refine done_ (by kernel_rfl) ?_
     try go_wp2
     refine bodyPost_ret (results_ct rfl _ _ gr 25 #[.int .i64 a0_0, .slice A7 y.length c7] (0, 0) _ rfl (blk_put (blk_put m1.out 0 _ rfl) 1 _ rfl) Try.underlying25 rfl (by kernel_rfl)) rfl ?_
     rw [← HY.out]
     refine ⟨_, by first | rfl | simp [hlw, hlw'], Kd.R_set (Kd.R_set m2.out m1.out (by decide) 0 _) (blk_put m1.out 0 _ rfl) (by decide) 1 _, (m3.out.setCell (p := ⟨gr, 0, none⟩) (Nat.le_trans HB.out.size GR.out) _).setCell (p := ⟨gr, 1, none⟩) (Nat.le_trans HB.out.size GR.out) _, (m4.out.setCell (p := ⟨gr, 0, none⟩) (.inr GR.out) _).setCell (p := ⟨gr, 1, none⟩) (.inr GR.out) _, fun ok0 u0 xs0 h0 hp => ?_⟩
     obtain ⟨q1, q2⟩ := m5.out ok0 u0 xs0 h0 hp
     exact ⟨Kd.R_set (Kd.R_set q1 m1.out (by decide) 0 _) (blk_put m1.out 0 _ rfl) (by decide) 1 _, q2⟩
 ·rw [if_neg c3] at h
  cases h
theorem spec_l8Add.calls (a0_0 : Int) (P0_1_ : Nat → Prop) (u9000_ : Value) (l0_1 : List S71) (a1 a2 a3 r1 : Int) (r2 : List S71) (r3 : Int) (w0 w : World) (hB : Below w0.heap.size w0 w) (ho0_1 : Kd.R k71 71 w w0.heap.size P0_1_ u9000_ l0_1) (h : spec_l8Add.f a0_0 l0_1 a1 a2 a3 = some (r1, r2, r3)) :
  Calls Try.prog 60 #[.agg #[.int .i64 a0_0, u9000_], .int .i64 a1, .int .i64 a2, .int .i64 a3] w fun e w' => ∃ v1_ : Value, e = .returned (.tuple #[.agg #[.int .i64 r1, v1_], .int .i64 r3]) ∧ Kd.R k71 71 w' w0.heap.size (fun k_ => (P0_1_ k_ ∨ w.heap.size ≤ k_)) v1_ r2 ∧ Below w0.heap.size w0 w' ∧ Kept w w' (fun k_ => P0_1_ k_) := by
 refine (spec_l8Add.strong a0_0 (fun k_ => P0_1_ k_ ∨ w.heap.size ≤ k_) u9000_ l0_1 a1 a2 a3 r1 r2 r3 w0 w hB (Kd.R_mono ho0_1 (fun _ hk => .inl hk)) (fun _ hk => .inr hk) h).mono ?_
 rintro e w' ⟨v1, rfl, h1, h2, h3, _⟩
 exact ⟨v1, rfl, h1, h2, h3.mono (fun k hk => ho0_1.1 k hk)⟩

end Go.Proofs.Ytpcompnmadpljaa.QFnDiagramOf
