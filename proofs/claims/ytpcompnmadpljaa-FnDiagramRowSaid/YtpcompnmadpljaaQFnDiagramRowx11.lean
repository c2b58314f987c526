-- Written by a program of this session (mk.py). Lean checks it.
import Derived.Test.YtpcompnmadpljaaQFnDiagramRowx0
import Derived.Test.YtpcompnmadpljaaQFnDiagramRowx1
import Derived.Test.YtpcompnmadpljaaQFnDiagramRowx9
import Derived.Test.YtpcompnmadpljaaQFnDiagramRowx10
namespace Go.Proofs.Ytpcompnmadpljaa.QFnDiagramRow
open Go.RowKit Go.Proofs.YtpcompnmadpljaaW.PrintWords Go.Proofs.YtpcompnmadpljaaW.PrintLast Go.Proofs.YtpcompnmadpljaaW.PrintMore
attribute [local go_sem] max2_int min2_int max_two min_two max_three min_three max_four min_four   -- for this text's walks alone
set_option linter.unusedVariables false
set_option linter.unusedSimpArgs false

attribute [local go_sem high] eqA71
/-! ### spec_DiagramValid: function 58 -/
mutual
def spec_DiagramValid.j0 : Nat → Bool → Int → List (S71) → Option (Bool)
 | 0, _, _, _ => none
 | k + 1, x15, x247000, x247001 => if x15 = true then (some false) else (spec_DiagramValid.l0 k 0 x247000 x247001)
def spec_DiagramValid.l0 : Nat → Int → Int → List (S71) → Option (Bool)
 | 0, _, _, _ => none
 | k + 1, x3, x247000, x247001 => if x3 < (x247001.length : Int) then (if 0 ≤ x3 then ((spec_l8Fork.f k x247000 x247001 ((rd_T71 x247001 x3).f0) ((rd_T71 x247001 x3).f1) ((rd_T71 x247001 x3).f2) (wrap64 (x3 + 1))).bind fun t250 => (if t250 = true then (spec_DiagramValid.j2 k x3 (((rd_T71 x247001 x3).f1) == ((rd_T71 x247001 x3).f2)) x247000 x247001 ((rd_T71 x247001 x3).f0) ((rd_T71 x247001 x3).f1) ((rd_T71 x247001 x3).f2)) else (spec_DiagramValid.j2 k x3 true x247000 x247001 ((rd_T71 x247001 x3).f0) ((rd_T71 x247001 x3).f1) ((rd_T71 x247001 x3).f2)))) else (none)) else (some true)
def spec_DiagramValid.j2 : Nat → Int → Bool → Int → List (S71) → Int → Int → Int → Option (Bool)
 | 0, _, _, _, _, _, _, _ => none
 | k + 1, x3, x40, x247000, x247001, x250000, x250001, x250002 => if x40 = true then (some false) else (spec_DiagramValid.l1 k x3 0 x247000 x247001 x250000 x250001 x250002)
def spec_DiagramValid.l1 : Nat → Int → Int → Int → List (S71) → Int → Int → Int → Option (Bool)
 | 0, _, _, _, _, _, _, _ => none
 | k + 1, x3, x5, x247000, x247001, x250000, x250001, x250002 => if x5 < x3 then (if 0 ≤ x5 then (if x5 < (x247001.length : Int) then (if (((rd_T71 x247001 x5).f0) == x250000 && (((rd_T71 x247001 x5).f1) == x250001 && (((rd_T71 x247001 x5).f2) == x250002))) = true then (some false) else (spec_DiagramValid.l1 k x3 (wrap64 (x5 + 1)) x247000 x247001 x250000 x250001 x250002)) else (none)) else (none)) else (spec_DiagramValid.l0 k (wrap64 (x3 + 1)) x247000 x247001)
end
def spec_DiagramValid.f (k : Nat) (a0_0 : Int) (l0_1 : List (S71)) : Option (Bool) := (spec_l1In.f a0_0 0 12).bind fun t247 => (if t247 = true then (spec_DiagramValid.j0 k (decide ((l0_1.length : Int) > 2000)) a0_0 l0_1) else (spec_DiagramValid.j0 k true a0_0 l0_1))
theorem spec_DiagramValid.mono_l : ∀ k, (∀ y0 y1 y2, LeO (spec_DiagramValid.j0 k y0 y1 y2) (spec_DiagramValid.j0 (k + 1) y0 y1 y2)) ∧ (∀ y0 y1 y2, LeO (spec_DiagramValid.l0 k y0 y1 y2) (spec_DiagramValid.l0 (k + 1) y0 y1 y2)) ∧ (∀ y0 y1 y2 y3 y4 y5 y6, LeO (spec_DiagramValid.j2 k y0 y1 y2 y3 y4 y5 y6) (spec_DiagramValid.j2 (k + 1) y0 y1 y2 y3 y4 y5 y6)) ∧ (∀ y0 y1 y2 y3 y4 y5 y6, LeO (spec_DiagramValid.l1 k y0 y1 y2 y3 y4 y5 y6) (spec_DiagramValid.l1 (k + 1) y0 y1 y2 y3 y4 y5 y6))
 | 0 => ⟨fun _ _ _ r h => by simp [spec_DiagramValid.j0] at h, fun _ _ _ r h => by simp [spec_DiagramValid.l0] at h, fun _ _ _ _ _ _ _ r h => by simp [spec_DiagramValid.j2] at h, fun _ _ _ _ _ _ _ r h => by simp [spec_DiagramValid.l1] at h⟩
 | k + 1 => by
  obtain ⟨ih0, ih1, ih2, ih3⟩ := spec_DiagramValid.mono_l k
  refine ⟨?_, ?_, ?_, ?_⟩
  ·intro y0 y1 y2
   unfold spec_DiagramValid.j0
   repeat' first
   | (with_reducible exact ih0 _ _ _)
   | (with_reducible exact ih1 _ _ _)
   | (with_reducible exact ih2 _ _ _ _ _ _ _)
   | (with_reducible exact ih3 _ _ _ _ _ _ _)
   | (with_reducible exact spec_l8Fork.mono _ _ _ _ _ _ _)
   | (with_reducible exact LeO.refl _)
   | (with_reducible exact LeO.none _)
   | (with_reducible refine LeO.ite ?_ ?_)
   | (with_reducible refine LeO.bind ?_ (fun _ => ?_))
   | exact ih0 _ _ _
   | exact ih1 _ _ _
   | exact ih2 _ _ _ _ _ _ _
   | exact ih3 _ _ _ _ _ _ _
   | exact spec_l8Fork.mono _ _ _ _ _ _ _
   | exact LeO.none _
   | refine LeO.ite ?_ ?_
   | refine LeO.bind ?_ (fun _ => ?_)
  ·intro y0 y1 y2
   unfold spec_DiagramValid.l0
   repeat' first
   | (with_reducible exact ih0 _ _ _)
   | (with_reducible exact ih1 _ _ _)
   | (with_reducible exact ih2 _ _ _ _ _ _ _)
   | (with_reducible exact ih3 _ _ _ _ _ _ _)
   | (with_reducible exact spec_l8Fork.mono _ _ _ _ _ _ _)
   | (with_reducible exact LeO.refl _)
   | (with_reducible exact LeO.none _)
   | (with_reducible refine LeO.ite ?_ ?_)
   | (with_reducible refine LeO.bind ?_ (fun _ => ?_))
   | exact ih0 _ _ _
   | exact ih1 _ _ _
   | exact ih2 _ _ _ _ _ _ _
   | exact ih3 _ _ _ _ _ _ _
   | exact spec_l8Fork.mono _ _ _ _ _ _ _
   | exact LeO.none _
   | refine LeO.ite ?_ ?_
   | refine LeO.bind ?_ (fun _ => ?_)
  ·intro y0 y1 y2 y3 y4 y5 y6
   unfold spec_DiagramValid.j2
   repeat' first
   | (with_reducible exact ih0 _ _ _)
   | (with_reducible exact ih1 _ _ _)
   | (with_reducible exact ih2 _ _ _ _ _ _ _)
   | (with_reducible exact ih3 _ _ _ _ _ _ _)
   | (with_reducible exact spec_l8Fork.mono _ _ _ _ _ _ _)
   | (with_reducible exact LeO.refl _)
   | (with_reducible exact LeO.none _)
   | (with_reducible refine LeO.ite ?_ ?_)
   | (with_reducible refine LeO.bind ?_ (fun _ => ?_))
   | exact ih0 _ _ _
   | exact ih1 _ _ _
   | exact ih2 _ _ _ _ _ _ _
   | exact ih3 _ _ _ _ _ _ _
   | exact spec_l8Fork.mono _ _ _ _ _ _ _
   | exact LeO.none _
   | refine LeO.ite ?_ ?_
   | refine LeO.bind ?_ (fun _ => ?_)
  ·intro y0 y1 y2 y3 y4 y5 y6
   unfold spec_DiagramValid.l1
   repeat' first
   | (with_reducible exact ih0 _ _ _)
   | (with_reducible exact ih1 _ _ _)
   | (with_reducible exact ih2 _ _ _ _ _ _ _)
   | (with_reducible exact ih3 _ _ _ _ _ _ _)
   | (with_reducible exact spec_l8Fork.mono _ _ _ _ _ _ _)
   | (with_reducible exact LeO.refl _)
   | (with_reducible exact LeO.none _)
   | (with_reducible refine LeO.ite ?_ ?_)
   | (with_reducible refine LeO.bind ?_ (fun _ => ?_))
   | exact ih0 _ _ _
   | exact ih1 _ _ _
   | exact ih2 _ _ _ _ _ _ _
   | exact ih3 _ _ _ _ _ _ _
   | exact spec_l8Fork.mono _ _ _ _ _ _ _
   | exact LeO.none _
   | refine LeO.ite ?_ ?_
   | refine LeO.bind ?_ (fun _ => ?_)
theorem spec_DiagramValid.mono : ∀ a0 a1 k, LeO (spec_DiagramValid.f k a0 a1) (spec_DiagramValid.f (k + 1) a0 a1) := by
 intro a0 a1 k
 obtain ⟨ih0, ih1, ih2, ih3⟩ := spec_DiagramValid.mono_l k
 unfold spec_DiagramValid.f
 repeat' first
   | (with_reducible exact ih0 _ _ _)
   | (with_reducible exact ih1 _ _ _)
   | (with_reducible exact ih2 _ _ _ _ _ _ _)
   | (with_reducible exact ih3 _ _ _ _ _ _ _)
   | (with_reducible exact spec_l8Fork.mono _ _ _ _ _ _ _)
   | (with_reducible exact LeO.refl _)
   | (with_reducible exact LeO.none _)
   | (with_reducible refine LeO.ite ?_ ?_)
   | (with_reducible refine LeO.bind ?_ (fun _ => ?_))
   | exact ih0 _ _ _
   | exact ih1 _ _ _
   | exact ih2 _ _ _ _ _ _ _
   | exact ih3 _ _ _ _ _ _ _
   | exact spec_l8Fork.mono _ _ _ _ _ _ _
   | exact LeO.none _
   | refine LeO.ite ?_ ?_
   | refine LeO.bind ?_ (fun _ => ?_)
set_option maxHeartbeats 8000000 in
set_option maxRecDepth 100000 in
theorem spec_DiagramValid.calls (k : Nat) (a0_0 : Int) (A0_1 : Option Addr) (c0_1 : Nat) (l0_1 : List (S71)) (r : Bool) (w : World) (hr0_1 : Kd.C k71 w A0_1 l0_1.length l0_1) (hc0_1 : l0_1.length ≤ c0_1) (h : spec_DiagramValid.f k a0_0 l0_1 = some r) :
  Calls Try.prog 58 #[.agg #[.int .i64 a0_0, .slice A0_1 l0_1.length c0_1]] w fun e w' => e = .returned (.bool r) ∧ Below w.heap.size w w' := by
 have hu25 := Try.underlying25
 have hu71 := Try.underlying71
 have HR0_1 := Aside0.mk hr0_1
 have HC0_1 := Aside0.mk hc0_1
 clear hr0_1 hc0_1
 have HB := Aside0.mk (Below.refl w.heap.size w)
 have H : ((spec_l1In.f a0_0 0 12).bind fun t247 => (if t247 = true then (spec_DiagramValid.j0 k (decide ((l0_1.length : Int) > 2000)) a0_0 l0_1) else (spec_DiagramValid.j0 k true a0_0 l0_1))) = some r := h
 clear h
 have HC2 := Aside0.mk H
 clear H
 go_enter Try.func58, Try.ntmps58
 go_upto_region 1 with (first | ((with_reducible refine gate_dst (N := 1) rfl ?_); (try (refine gate_guard (by rfl) ?_; dsimp only)); refine box_event ?hg (N := 1) ?hd (cs := #[.int .i64 a0_0, .slice A0_1 l0_1.length c0_1]) (t := 25) ?hr ?_; (case hd => rfl); (case hg => rfl); (case hr => first | (go_simp; done) | (go_simp; rfl)); intro gb246 hg w3 hbox hb; have n0_ := Aside0.mk (below_step (by repeat (first | (with_reducible first | exact HB.out | apply bwA | apply bwN | apply bwD) | exact HB.out)) hb); have n1_ := Aside0.mk (hbox); have n2_ := Aside0.mk ((by rw [hg]; exact (below_size (by repeat (first | (with_reducible first | exact HB.out | apply bwA | apply bwN | apply bwD) | exact HB.out))) : w.heap.size ≤ gb246)); have n3_ := Aside0.mk ((by rw [hg]; exact (below_size (by repeat (first | (with_reducible first | exact HB.out | apply bwA | apply bwN | apply bwD) | exact HB.out))) : w.heap.size ≤ gb246)); clear HB; have HB := n0_; have BK246 := n1_; have GW246 := n2_; have GE246 := n3_; clear n0_ n1_ n2_ n3_; clear hb hbox hg))
 repeat (go_quiet (first | ((with_reducible refine gate_dst (N := 1) rfl ?_); (try (refine gate_guard (by rfl) ?_; dsimp only)); refine box_event ?hg (N := 1) ?hd (cs := #[.int .i64 a0_0, .slice A0_1 l0_1.length c0_1]) (t := 25) ?hr ?_; (case hd => rfl); (case hg => rfl); (case hr => first | (go_simp; done) | (go_simp; rfl)); intro gb246 hg w3 hbox hb; have n0_ := Aside0.mk (below_step (by repeat (first | (with_reducible first | exact HB.out | apply bwA | apply bwN | apply bwD) | exact HB.out)) hb); have n1_ := Aside0.mk (hbox); have n2_ := Aside0.mk ((by rw [hg]; exact (below_size (by repeat (first | (with_reducible first | exact HB.out | apply bwA | apply bwN | apply bwD) | exact HB.out))) : w.heap.size ≤ gb246)); have n3_ := Aside0.mk ((by rw [hg]; exact (below_size (by repeat (first | (with_reducible first | exact HB.out | apply bwA | apply bwN | apply bwD) | exact HB.out))) : w.heap.size ≤ gb246)); clear HB; have HB := n0_; have BK246 := n1_; have GW246 := n2_; have GE246 := n3_; clear n0_ n1_ n2_ n3_; clear hb hbox hg)); go_upto_region 1 with (first | ((with_reducible refine gate_dst (N := 1) rfl ?_); (try (refine gate_guard (by rfl) ?_; dsimp only)); refine box_event ?hg (N := 1) ?hd (cs := #[.int .i64 a0_0, .slice A0_1 l0_1.length c0_1]) (t := 25) ?hr ?_; (case hd => rfl); (case hg => rfl); (case hr => first | (go_simp; done) | (go_simp; rfl)); intro gb246 hg w3 hbox hb; have n0_ := Aside0.mk (below_step (by repeat (first | (with_reducible first | exact HB.out | apply bwA | apply bwN | apply bwD) | exact HB.out)) hb); have n1_ := Aside0.mk (hbox); have n2_ := Aside0.mk ((by rw [hg]; exact (below_size (by repeat (first | (with_reducible first | exact HB.out | apply bwA | apply bwN | apply bwD) | exact HB.out))) : w.heap.size ≤ gb246)); have n3_ := Aside0.mk ((by rw [hg]; exact (below_size (by repeat (first | (with_reducible first | exact HB.out | apply bwA | apply bwN | apply bwD) | exact HB.out))) : w.heap.size ≤ gb246)); clear HB; have HB := n0_; have BK246 := n1_; have GW246 := n2_; have GE246 := n3_; clear n0_ n1_ n2_ n3_; clear hb hbox hg)))
 (try simp only [Act.put, List.setIfInBounds_toArray, List.set_cons_zero, List.set_cons_succ])
 go_cut [15] (fun v15 wc => ∃ (kq : Nat) (x15_1 : Bool), v15 = .bool x15_1 ∧ Aside0 (spec_DiagramValid.j0 kq x15_1 a0_0 l0_1 = some r) ∧ Aside0 (kq ≤ k) ∧ Aside0 (wc.heap[gb246]? = some (.cells #[.int .i64 a0_0, (.slice A0_1 l0_1.length c0_1)] 25 (0, 0))) ∧ Aside0 (Below w.heap.size w wc))
 case first =>
  have H := HC2.out
  clear HC2
  replace H := Option.bind_eq_some_iff.mp H
  obtain ⟨t247, A40, H⟩ := H
  replace H : (if t247 = true then (spec_DiagramValid.j0 k (decide ((l0_1.length : Int) > 2000)) a0_0 l0_1) else (spec_DiagramValid.j0 k true a0_0 l0_1)) = some r := H
  have A4 := Aside0.mk A40
  clear A40
  by_cases c5 : t247 = true
  ·subst c5
   have H1 : (spec_DiagramValid.j0 k (decide ((l0_1.length : Int) > 2000)) a0_0 l0_1) = some r := by rw [if_pos rfl] at H; exact H
   clear H
   have H := H1
   clear H1
   have H' := Aside0.mk H
   clear H
   have hcz6_0 : w3.cell? ⟨gb246, 0, none⟩ = some (.int .i64 a0_0) := (blk_cell BK246.out 0).trans rfl
   have hcz6_1 : w3.cell? ⟨gb246, 1, none⟩ = some (.slice A0_1 l0_1.length c0_1) := (blk_cell BK246.out 1).trans rfl
   have hfz6_0 := blk_frozen BK246.out 0
   have hfz6_1 := blk_frozen BK246.out 1
   go_wp2_with (first | (go_at_call 65; (with_reducible refine (spec_l1In.calls a0_0 0 12 true _ A4.out).mono ?_); rintro e w' ⟨rfl, ⟨nd, rfl⟩⟩; (try first | exact ⟨rfl, _, World.drewN_drewN _ _ _⟩ | exact ⟨rfl, _, Eq.trans (World.drewN_drewN _ _ _) (congrArg (World.drewN _) (Nat.add_assoc _ _ _))⟩)))
   repeat (go_quiet (first | (go_at_call 65; (with_reducible refine (spec_l1In.calls a0_0 0 12 true _ A4.out).mono ?_); rintro e w' ⟨rfl, ⟨nd, rfl⟩⟩; (try first | exact ⟨rfl, _, World.drewN_drewN _ _ _⟩ | exact ⟨rfl, _, Eq.trans (World.drewN_drewN _ _ _) (congrArg (World.drewN _) (Nat.add_assoc _ _ _))⟩))); try go_wp2_with (first | (go_at_call 65; (with_reducible refine (spec_l1In.calls a0_0 0 12 true _ A4.out).mono ?_); rintro e w' ⟨rfl, ⟨nd, rfl⟩⟩; (try first | exact ⟨rfl, _, World.drewN_drewN _ _ _⟩ | exact ⟨rfl, _, Eq.trans (World.drewN_drewN _ _ _) (congrArg (World.drewN _) (Nat.add_assoc _ _ _))⟩))))
   go_meet
   case rel => exact ⟨_, (decide ((l0_1.length : Int) > 2000)), rsd, H', ⟨by first | omega | exact Nat.le_refl _⟩, ⟨bvK BK246.out⟩, ⟨by repeat (first | (with_reducible first | exact HB.out | apply bwA | apply bwN | apply bwD | refine below_set ?_ GE246.out) | exact HB.out)⟩⟩
  ·replace c5 := Bool.eq_false_iff.mpr c5
   subst c5
   have H1 : (spec_DiagramValid.j0 k true a0_0 l0_1) = some r := by rw [if_neg (show ¬ (false = true) by decide)] at H; exact H
   clear H
   have H := H1
   clear H1
   have H' := Aside0.mk H
   clear H
   have hcz7_0 : w3.cell? ⟨gb246, 0, none⟩ = some (.int .i64 a0_0) := (blk_cell BK246.out 0).trans rfl
   have hcz7_1 : w3.cell? ⟨gb246, 1, none⟩ = some (.slice A0_1 l0_1.length c0_1) := (blk_cell BK246.out 1).trans rfl
   have hfz7_0 := blk_frozen BK246.out 0
   have hfz7_1 := blk_frozen BK246.out 1
   go_wp2_with (first | (go_at_call 65; (with_reducible refine (spec_l1In.calls a0_0 0 12 false _ A4.out).mono ?_); rintro e w' ⟨rfl, ⟨nd, rfl⟩⟩; (try first | exact ⟨rfl, _, World.drewN_drewN _ _ _⟩ | exact ⟨rfl, _, Eq.trans (World.drewN_drewN _ _ _) (congrArg (World.drewN _) (Nat.add_assoc _ _ _))⟩)))
   repeat (go_quiet (first | (go_at_call 65; (with_reducible refine (spec_l1In.calls a0_0 0 12 false _ A4.out).mono ?_); rintro e w' ⟨rfl, ⟨nd, rfl⟩⟩; (try first | exact ⟨rfl, _, World.drewN_drewN _ _ _⟩ | exact ⟨rfl, _, Eq.trans (World.drewN_drewN _ _ _) (congrArg (World.drewN _) (Nat.add_assoc _ _ _))⟩))); try go_wp2_with (first | (go_at_call 65; (with_reducible refine (spec_l1In.calls a0_0 0 12 false _ A4.out).mono ?_); rintro e w' ⟨rfl, ⟨nd, rfl⟩⟩; (try first | exact ⟨rfl, _, World.drewN_drewN _ _ _⟩ | exact ⟨rfl, _, Eq.trans (World.drewN_drewN _ _ _) (congrArg (World.drewN _) (Nat.add_assoc _ _ _))⟩))))
   go_meet
   case rel => exact ⟨_, (true), rsd, H', ⟨by first | omega | exact Nat.le_refl _⟩, ⟨bvK BK246.out⟩, ⟨by repeat (first | (with_reducible first | exact HB.out | apply bwA | apply bwN | apply bwD | refine below_set ?_ GE246.out) | exact HB.out)⟩⟩
 case rest =>
  clear HC2
  try clear p2
  try clear c5
  try clear hcz6_0
  try clear hcz6_1
  try clear hcz7_0
  try clear hcz7_1
  try clear hfz6_0
  try clear hfz6_1
  try clear hfz7_0
  try clear hfz7_1
  obtain ⟨kq, x15_1, rfl, HA, HJ1, BK246, HB⟩ := hcut
  cases kq with
  | zero => exact absurd HA.out (by simp [spec_DiagramValid.j0])
  | succ kj1 =>
   have H := HA.out
   clear HA
   simp only [spec_DiagramValid.j0] at H
   by_cases c8 : x15_1 = true
   ·subst c8
    have H1 : (some false) = some r := by rw [if_pos rfl] at H; exact H
    clear H
    have H := H1
    clear H1
    obtain rfl := Option.some.inj H
    go_wp2
    repeat (go_quiet (fail); try go_wp2)
    go_ret
    exact ⟨ers, by repeat (first | (with_reducible first | exact HB.out | apply bwA | apply bwN | apply bwD | refine below_set ?_ GE246.out) | exact HB.out)⟩
   ·replace c8 := Bool.eq_false_iff.mpr c8
    subst c8
    have H1 : (spec_DiagramValid.l0 kj1 0 a0_0 l0_1) = some r := by rw [if_neg (show ¬ (false = true) by decide)] at H; exact H
    clear H
    have H := H1
    clear H1
    have H' := Aside0.mk H
    clear H
    go_wp2
    repeat (go_quiet (fail); try go_wp2)
    go_loopg [3] kj1 (fun kq v3 w' => ∃ (x3_2 : Int), v3 = .int .i64 x3_2 ∧ Aside0 (spec_DiagramValid.l0 kq x3_2 a0_0 l0_1 = some r) ∧ Aside0 (kq ≤ kj1) ∧ Aside0 (w'.heap[gb246]? = some (.cells #[.int .i64 a0_0, (.slice A0_1 l0_1.length c0_1)] 25 (0, 0))) ∧ Aside0 (Below w.heap.size w w'))
    case atStart => exact ⟨(0), rsd, H', ⟨Nat.le_refl _⟩, ⟨bvK BK246.out⟩, ⟨by repeat (first | (with_reducible first | exact HB.out | apply bwA | apply bwN | apply bwD | refine below_set ?_ GE246.out) | exact HB.out)⟩⟩
    case round =>
     clear H'
     try clear p2
     try clear c5
     try clear c8
     try clear hcz6_0
     try clear hcz6_1
     try clear hcz7_0
     try clear hcz7_1
     try clear hfz6_0
     try clear hfz6_1
     try clear hfz7_0
     try clear hfz7_1
     try clear p2
     obtain ⟨x3_2, rfl, HA, HK2, BK246, HB⟩ := hrel
     cases gk with
     | zero => exact absurd HA.out (by simp [spec_DiagramValid.l0])
     | succ k2 =>
      have H := HA.out
      clear HA
      simp only [spec_DiagramValid.l0] at H
      by_cases c9 : x3_2 < (l0_1.length : Int)
      ·rw [if_pos c9] at H
       have c9b0 : decide (x3_2 < (l0_1.length : Int)) = true := decide_eq_true c9
       clear c9
       by_cases c10 : 0 ≤ x3_2
       ·rw [if_pos c10] at H
        have c10b0 : decide (0 ≤ x3_2) = true := decide_eq_true c10
        clear c10
        have HC11 := Aside0.mk H
        clear H
        have hcz12_0 : wr.cell? ⟨gb246, 0, none⟩ = some (.int .i64 a0_0) := (blk_cell BK246.out 0).trans rfl
        have hcz12_1 : wr.cell? ⟨gb246, 1, none⟩ = some (.slice A0_1 l0_1.length c0_1) := (blk_cell BK246.out 1).trans rfl
        have hfz12_0 := blk_frozen BK246.out 0
        have hfz12_1 := blk_frozen BK246.out 1
        have p248 : 0 ≤ (x3_2 : Int) := oda
        have q248 : x3_2 < (l0_1.length : Int) := oda
        obtain ⟨ad248, e248, hx248_0, hx248_1, hx248_2⟩ := at_T71 HR0_1.out x3_2 p248 q248
        cases e248
        try replace hx248_0 := bct HB.out hx248_0
        try replace hx248_1 := bct HB.out hx248_1
        try replace hx248_2 := bct HB.out hx248_2
        replace p248 := eq_true p248
        replace q248 := eq_true q248
        go_upto_region 7 with (first | ((with_reducible refine gate_dst (N := 4) rfl ?_); (try (refine gate_guard (by rfl) ?_; dsimp only)); refine box_event ?hg (N := 4) ?hd (cs := #[.int .i64 0, .int .i64 0, .int .i64 0]) (t := 71) ?hr ?_; (case hd => rfl); (case hg => rfl); (case hr => first | (go_simp; done) | (go_simp; rfl)); intro gb249 hg w13 hbox hb; have n0_ := Aside0.mk (blk_below (g := gb246) (o := .cells #[.int .i64 a0_0, .slice (some ad248) l0_1.length c0_1] 25 (0, 0)) (bvK BK246.out) hb); have n1_ := Aside0.mk (below_step (by repeat (first | (with_reducible first | exact HB.out | apply bwA | apply bwN | apply bwD | refine below_set ?_ GE246.out) | exact HB.out)) hb); have n2_ := Aside0.mk (hbox); have n3_ := Aside0.mk ((by rw [hg]; exact (below_size (by repeat (first | (with_reducible first | exact HB.out | apply bwA | apply bwN | apply bwD | refine below_set ?_ GE246.out) | exact HB.out))) : w.heap.size ≤ gb249)); have n4_ := Aside0.mk ((by rw [hg]; exact (below_size (by repeat (first | (with_reducible first | exact HB.out | apply bwA | apply bwN | apply bwD | refine below_set ?_ GE246.out) | exact HB.out))) : w.heap.size ≤ gb249)); have n5_ := Aside0.mk ((by rw [hg]; exact Nat.ne_of_lt (blk_lt (g := gb246) (o := .cells #[.int .i64 a0_0, .slice (some ad248) l0_1.length c0_1] 25 (0, 0)) (bvK BK246.out)) : gb246 ≠ gb249)); have n6_ := Aside0.mk ((by rw [hg]; exact Nat.ne_of_gt (blk_lt (g := gb246) (o := .cells #[.int .i64 a0_0, .slice (some ad248) l0_1.length c0_1] 25 (0, 0)) (bvK BK246.out)) : gb249 ≠ gb246)); clear BK246; clear HB; have BK246 := n0_; have HB := n1_; have BK249 := n2_; have GW249 := n3_; have GE249 := n4_; have NB246_249 := n5_; have NB249_246 := n6_; clear n0_ n1_ n2_ n3_ n4_ n5_ n6_; clear hb hbox hg; have hnb14 := NB249_246.out; have hnc14 := NB246_249.out; have hcz15_0 : w13.cell? ⟨gb249, 0, none⟩ = some (.int .i64 0) := (blk_cell BK249.out 0).trans rfl; have hcz15_1 : w13.cell? ⟨gb249, 1, none⟩ = some (.int .i64 0) := (blk_cell BK249.out 1).trans rfl; have hcz15_2 : w13.cell? ⟨gb249, 2, none⟩ = some (.int .i64 0) := (blk_cell BK249.out 2).trans rfl; have hfz15_0 := blk_frozen BK249.out 0; have hfz15_1 := blk_frozen BK249.out 1; have hfz15_2 := blk_frozen BK249.out 2))
        repeat (go_quiet (first | ((with_reducible refine gate_dst (N := 4) rfl ?_); (try (refine gate_guard (by rfl) ?_; dsimp only)); refine box_event ?hg (N := 4) ?hd (cs := #[.int .i64 0, .int .i64 0, .int .i64 0]) (t := 71) ?hr ?_; (case hd => rfl); (case hg => rfl); (case hr => first | (go_simp; done) | (go_simp; rfl)); intro gb249 hg w13 hbox hb; have n0_ := Aside0.mk (blk_below (g := gb246) (o := .cells #[.int .i64 a0_0, .slice (some ad248) l0_1.length c0_1] 25 (0, 0)) (bvK BK246.out) hb); have n1_ := Aside0.mk (below_step (by repeat (first | (with_reducible first | exact HB.out | apply bwA | apply bwN | apply bwD | refine below_set ?_ GE246.out) | exact HB.out)) hb); have n2_ := Aside0.mk (hbox); have n3_ := Aside0.mk ((by rw [hg]; exact (below_size (by repeat (first | (with_reducible first | exact HB.out | apply bwA | apply bwN | apply bwD | refine below_set ?_ GE246.out) | exact HB.out))) : w.heap.size ≤ gb249)); have n4_ := Aside0.mk ((by rw [hg]; exact (below_size (by repeat (first | (with_reducible first | exact HB.out | apply bwA | apply bwN | apply bwD | refine below_set ?_ GE246.out) | exact HB.out))) : w.heap.size ≤ gb249)); have n5_ := Aside0.mk ((by rw [hg]; exact Nat.ne_of_lt (blk_lt (g := gb246) (o := .cells #[.int .i64 a0_0, .slice (some ad248) l0_1.length c0_1] 25 (0, 0)) (bvK BK246.out)) : gb246 ≠ gb249)); have n6_ := Aside0.mk ((by rw [hg]; exact Nat.ne_of_gt (blk_lt (g := gb246) (o := .cells #[.int .i64 a0_0, .slice (some ad248) l0_1.length c0_1] 25 (0, 0)) (bvK BK246.out)) : gb249 ≠ gb246)); clear BK246; clear HB; have BK246 := n0_; have HB := n1_; have BK249 := n2_; have GW249 := n3_; have GE249 := n4_; have NB246_249 := n5_; have NB249_246 := n6_; clear n0_ n1_ n2_ n3_ n4_ n5_ n6_; clear hb hbox hg; have hnb14 := NB249_246.out; have hnc14 := NB246_249.out; have hcz15_0 : w13.cell? ⟨gb249, 0, none⟩ = some (.int .i64 0) := (blk_cell BK249.out 0).trans rfl; have hcz15_1 : w13.cell? ⟨gb249, 1, none⟩ = some (.int .i64 0) := (blk_cell BK249.out 1).trans rfl; have hcz15_2 : w13.cell? ⟨gb249, 2, none⟩ = some (.int .i64 0) := (blk_cell BK249.out 2).trans rfl; have hfz15_0 := blk_frozen BK249.out 0; have hfz15_1 := blk_frozen BK249.out 1; have hfz15_2 := blk_frozen BK249.out 2)); go_upto_region 7 with (first | ((with_reducible refine gate_dst (N := 4) rfl ?_); (try (refine gate_guard (by rfl) ?_; dsimp only)); refine box_event ?hg (N := 4) ?hd (cs := #[.int .i64 0, .int .i64 0, .int .i64 0]) (t := 71) ?hr ?_; (case hd => rfl); (case hg => rfl); (case hr => first | (go_simp; done) | (go_simp; rfl)); intro gb249 hg w13 hbox hb; have n0_ := Aside0.mk (blk_below (g := gb246) (o := .cells #[.int .i64 a0_0, .slice (some ad248) l0_1.length c0_1] 25 (0, 0)) (bvK BK246.out) hb); have n1_ := Aside0.mk (below_step (by repeat (first | (with_reducible first | exact HB.out | apply bwA | apply bwN | apply bwD | refine below_set ?_ GE246.out) | exact HB.out)) hb); have n2_ := Aside0.mk (hbox); have n3_ := Aside0.mk ((by rw [hg]; exact (below_size (by repeat (first | (with_reducible first | exact HB.out | apply bwA | apply bwN | apply bwD | refine below_set ?_ GE246.out) | exact HB.out))) : w.heap.size ≤ gb249)); have n4_ := Aside0.mk ((by rw [hg]; exact (below_size (by repeat (first | (with_reducible first | exact HB.out | apply bwA | apply bwN | apply bwD | refine below_set ?_ GE246.out) | exact HB.out))) : w.heap.size ≤ gb249)); have n5_ := Aside0.mk ((by rw [hg]; exact Nat.ne_of_lt (blk_lt (g := gb246) (o := .cells #[.int .i64 a0_0, .slice (some ad248) l0_1.length c0_1] 25 (0, 0)) (bvK BK246.out)) : gb246 ≠ gb249)); have n6_ := Aside0.mk ((by rw [hg]; exact Nat.ne_of_gt (blk_lt (g := gb246) (o := .cells #[.int .i64 a0_0, .slice (some ad248) l0_1.length c0_1] 25 (0, 0)) (bvK BK246.out)) : gb249 ≠ gb246)); clear BK246; clear HB; have BK246 := n0_; have HB := n1_; have BK249 := n2_; have GW249 := n3_; have GE249 := n4_; have NB246_249 := n5_; have NB249_246 := n6_; clear n0_ n1_ n2_ n3_ n4_ n5_ n6_; clear hb hbox hg; have hnb14 := NB249_246.out; have hnc14 := NB246_249.out; have hcz15_0 : w13.cell? ⟨gb249, 0, none⟩ = some (.int .i64 0) := (blk_cell BK249.out 0).trans rfl; have hcz15_1 : w13.cell? ⟨gb249, 1, none⟩ = some (.int .i64 0) := (blk_cell BK249.out 1).trans rfl; have hcz15_2 : w13.cell? ⟨gb249, 2, none⟩ = some (.int .i64 0) := (blk_cell BK249.out 2).trans rfl; have hfz15_0 := blk_frozen BK249.out 0; have hfz15_1 := blk_frozen BK249.out 1; have hfz15_2 := blk_frozen BK249.out 2)))
        (try simp only [Act.put, List.setIfInBounds_toArray, List.set_cons_zero, List.set_cons_succ])
        go_cut [40] (fun v40 wc => ∃ (kq : Nat) (x40_10 : Bool), v40 = .bool x40_10 ∧ Aside0 (spec_DiagramValid.j2 kq x3_2 x40_10 a0_0 l0_1 ((rd_T71 l0_1 x3_2).f0) ((rd_T71 l0_1 x3_2).f1) ((rd_T71 l0_1 x3_2).f2) = some r) ∧ Aside0 (kq ≤ k2) ∧ Aside0 (wc.heap[gb246]? = some (.cells #[.int .i64 a0_0, (.slice (some ad248) l0_1.length c0_1)] 25 (0, 0))) ∧ Aside0 (wc.heap[gb249]? = some (.cells #[.int .i64 ((rd_T71 l0_1 x3_2).f0), .int .i64 ((rd_T71 l0_1 x3_2).f1), .int .i64 ((rd_T71 l0_1 x3_2).f2)] 71 (0, 0))) ∧ Aside0 (Below w.heap.size w wc))
        case first =>
         have H := HC11.out
         clear HC11
         replace H := Option.bind_eq_some_iff.mp H
         obtain ⟨t250, A160, H⟩ := H
         replace H : (if t250 = true then (spec_DiagramValid.j2 k2 x3_2 (((rd_T71 l0_1 x3_2).f1) == ((rd_T71 l0_1 x3_2).f2)) a0_0 l0_1 ((rd_T71 l0_1 x3_2).f0) ((rd_T71 l0_1 x3_2).f1) ((rd_T71 l0_1 x3_2).f2)) else (spec_DiagramValid.j2 k2 x3_2 true a0_0 l0_1 ((rd_T71 l0_1 x3_2).f0) ((rd_T71 l0_1 x3_2).f1) ((rd_T71 l0_1 x3_2).f2))) = some r := H
         have A16 := Aside0.mk A160
         clear A160
         by_cases c17 : t250 = true
         ·subst c17
          have H1 : (spec_DiagramValid.j2 k2 x3_2 (((rd_T71 l0_1 x3_2).f1) == ((rd_T71 l0_1 x3_2).f2)) a0_0 l0_1 ((rd_T71 l0_1 x3_2).f0) ((rd_T71 l0_1 x3_2).f1) ((rd_T71 l0_1 x3_2).f2)) = some r := by rw [if_pos rfl] at H; exact H
          clear H
          have H := H1
          clear H1
          have H' := Aside0.mk H
          clear H
          have hnb18 := NB246_249.out
          have hnc18 := NB249_246.out
          have hcz19_0 : w13.cell? ⟨gb246, 0, none⟩ = some (.int .i64 a0_0) := (blk_cell BK246.out 0).trans rfl
          have hcz19_1 : w13.cell? ⟨gb246, 1, none⟩ = some (.slice (some ad248) l0_1.length c0_1) := (blk_cell BK246.out 1).trans rfl
          have hfz19_0 := blk_frozen BK246.out 0
          have hfz19_1 := blk_frozen BK246.out 1
          have hcz20_0 : w13.cell? ⟨gb249, 0, none⟩ = some (.int .i64 0) := (blk_cell BK249.out 0).trans rfl
          have hcz20_1 : w13.cell? ⟨gb249, 1, none⟩ = some (.int .i64 0) := (blk_cell BK249.out 1).trans rfl
          have hcz20_2 : w13.cell? ⟨gb249, 2, none⟩ = some (.int .i64 0) := (blk_cell BK249.out 2).trans rfl
          have hfz20_0 := blk_frozen BK249.out 0
          have hfz20_1 := blk_frozen BK249.out 1
          have hfz20_2 := blk_frozen BK249.out 2
          go_wp2_with (first | (go_at_call 59; (with_reducible refine (spec_l8Fork.calls k2 a0_0 _ _ l0_1 ((rd_T71 l0_1 x3_2).f0) ((rd_T71 l0_1 x3_2).f1) ((rd_T71 l0_1 x3_2).f2) (wrap64 (x3_2 + 1)) true _ ?side1 ?side2 A16.out).mono ?_); (case side1 => exact Kd.C_below HR0_1.out (by repeat (first | (with_reducible first | exact HB.out | apply bwA | apply bwN | apply bwD | refine below_set ?_ GE246.out | refine below_set ?_ GE249.out) | exact HB.out))); (case side2 => exact HC0_1.out); rintro e w21 ⟨rfl, hb⟩; have n0_ := Aside0.mk (blk_below (g := gb246) (o := .cells #[.int .i64 a0_0, .slice (some ad248) l0_1.length c0_1] 25 (0, 0)) (by (with_reducible repeat (first | refine blk_drewN ?_ _ | refine blk_drew ?_ | refine blk_alloc ?_ _)); refine blk_far ?_ NB246_249.out _; (with_reducible repeat (first | refine blk_drewN ?_ _ | refine blk_drew ?_ | refine blk_alloc ?_ _)); refine blk_far ?_ NB246_249.out _; (with_reducible repeat (first | refine blk_drewN ?_ _ | refine blk_drew ?_ | refine blk_alloc ?_ _)); refine blk_far ?_ NB246_249.out _; (with_reducible repeat (first | refine blk_drewN ?_ _ | refine blk_drew ?_ | refine blk_alloc ?_ _)); exact BK246.out) hb); have n1_ := Aside0.mk (blk_below (g := gb249) (o := .cells #[.int .i64 ((rd_T71 l0_1 x3_2).f0), .int .i64 ((rd_T71 l0_1 x3_2).f1), .int .i64 ((rd_T71 l0_1 x3_2).f2)] 71 (0, 0)) (by (with_reducible repeat (first | refine blk_drewN ?_ _ | refine blk_drew ?_ | refine blk_alloc ?_ _)); refine blk_put (cs := #[.int .i64 ((rd_T71 l0_1 x3_2).f0), .int .i64 ((rd_T71 l0_1 x3_2).f1), .int .i64 0]) ?_ 2 _ rfl; (with_reducible repeat (first | refine blk_drewN ?_ _ | refine blk_drew ?_ | refine blk_alloc ?_ _)); refine blk_put (cs := #[.int .i64 ((rd_T71 l0_1 x3_2).f0), .int .i64 0, .int .i64 0]) ?_ 1 _ rfl; (with_reducible repeat (first | refine blk_drewN ?_ _ | refine blk_drew ?_ | refine blk_alloc ?_ _)); refine blk_put (cs := #[.int .i64 0, .int .i64 0, .int .i64 0]) ?_ 0 _ rfl; (with_reducible repeat (first | refine blk_drewN ?_ _ | refine blk_drew ?_ | refine blk_alloc ?_ _)); exact BK249.out) hb); have n2_ := Aside0.mk (below_step (by repeat (first | (with_reducible first | exact HB.out | apply bwA | apply bwN | apply bwD | refine below_set ?_ GE246.out | refine below_set ?_ GE249.out) | exact HB.out)) hb); clear BK246; clear BK249; clear HB; have BK246 := n0_; have BK249 := n1_; have HB := n2_; clear n0_ n1_ n2_; (try clear hb); (try clear hb2); (try clear hk); (try clear hi); have hcz22_0 : w21.cell? ⟨gb249, 0, none⟩ = some (.int .i64 ((rd_T71 l0_1 x3_2).f0)) := (blk_cell BK249.out 0).trans rfl; have hcz22_1 : w21.cell? ⟨gb249, 1, none⟩ = some (.int .i64 ((rd_T71 l0_1 x3_2).f1)) := (blk_cell BK249.out 1).trans rfl; have hcz22_2 : w21.cell? ⟨gb249, 2, none⟩ = some (.int .i64 ((rd_T71 l0_1 x3_2).f2)) := (blk_cell BK249.out 2).trans rfl; have hfz22_0 := blk_frozen BK249.out 0; have hfz22_1 := blk_frozen BK249.out 1; have hfz22_2 := blk_frozen BK249.out 2))
          repeat (go_quiet (first | (go_at_call 59; (with_reducible refine (spec_l8Fork.calls k2 a0_0 _ _ l0_1 ((rd_T71 l0_1 x3_2).f0) ((rd_T71 l0_1 x3_2).f1) ((rd_T71 l0_1 x3_2).f2) (wrap64 (x3_2 + 1)) true _ ?side1 ?side2 A16.out).mono ?_); (case side1 => exact Kd.C_below HR0_1.out (by repeat (first | (with_reducible first | exact HB.out | apply bwA | apply bwN | apply bwD | refine below_set ?_ GE246.out | refine below_set ?_ GE249.out) | exact HB.out))); (case side2 => exact HC0_1.out); rintro e w21 ⟨rfl, hb⟩; have n0_ := Aside0.mk (blk_below (g := gb246) (o := .cells #[.int .i64 a0_0, .slice (some ad248) l0_1.length c0_1] 25 (0, 0)) (by (with_reducible repeat (first | refine blk_drewN ?_ _ | refine blk_drew ?_ | refine blk_alloc ?_ _)); refine blk_far ?_ NB246_249.out _; (with_reducible repeat (first | refine blk_drewN ?_ _ | refine blk_drew ?_ | refine blk_alloc ?_ _)); refine blk_far ?_ NB246_249.out _; (with_reducible repeat (first | refine blk_drewN ?_ _ | refine blk_drew ?_ | refine blk_alloc ?_ _)); refine blk_far ?_ NB246_249.out _; (with_reducible repeat (first | refine blk_drewN ?_ _ | refine blk_drew ?_ | refine blk_alloc ?_ _)); exact BK246.out) hb); have n1_ := Aside0.mk (blk_below (g := gb249) (o := .cells #[.int .i64 ((rd_T71 l0_1 x3_2).f0), .int .i64 ((rd_T71 l0_1 x3_2).f1), .int .i64 ((rd_T71 l0_1 x3_2).f2)] 71 (0, 0)) (by (with_reducible repeat (first | refine blk_drewN ?_ _ | refine blk_drew ?_ | refine blk_alloc ?_ _)); refine blk_put (cs := #[.int .i64 ((rd_T71 l0_1 x3_2).f0), .int .i64 ((rd_T71 l0_1 x3_2).f1), .int .i64 0]) ?_ 2 _ rfl; (with_reducible repeat (first | refine blk_drewN ?_ _ | refine blk_drew ?_ | refine blk_alloc ?_ _)); refine blk_put (cs := #[.int .i64 ((rd_T71 l0_1 x3_2).f0), .int .i64 0, .int .i64 0]) ?_ 1 _ rfl; (with_reducible repeat (first | refine blk_drewN ?_ _ | refine blk_drew ?_ | refine blk_alloc ?_ _)); refine blk_put (cs := #[.int .i64 0, .int .i64 0, .int .i64 0]) ?_ 0 _ rfl; (with_reducible repeat (first | refine blk_drewN ?_ _ | refine blk_drew ?_ | refine blk_alloc ?_ _)); exact BK249.out) hb); have n2_ := Aside0.mk (below_step (by repeat (first | (with_reducible first | exact HB.out | apply bwA | apply bwN | apply bwD | refine below_set ?_ GE246.out | refine below_set ?_ GE249.out) | exact HB.out)) hb); clear BK246; clear BK249; clear HB; have BK246 := n0_; have BK249 := n1_; have HB := n2_; clear n0_ n1_ n2_; (try clear hb); (try clear hb2); (try clear hk); (try clear hi); have hcz22_0 : w21.cell? ⟨gb249, 0, none⟩ = some (.int .i64 ((rd_T71 l0_1 x3_2).f0)) := (blk_cell BK249.out 0).trans rfl; have hcz22_1 : w21.cell? ⟨gb249, 1, none⟩ = some (.int .i64 ((rd_T71 l0_1 x3_2).f1)) := (blk_cell BK249.out 1).trans rfl; have hcz22_2 : w21.cell? ⟨gb249, 2, none⟩ = some (.int .i64 ((rd_T71 l0_1 x3_2).f2)) := (blk_cell BK249.out 2).trans rfl; have hfz22_0 := blk_frozen BK249.out 0; have hfz22_1 := blk_frozen BK249.out 1; have hfz22_2 := blk_frozen BK249.out 2)); try go_wp2_with (first | (go_at_call 59; (with_reducible refine (spec_l8Fork.calls k2 a0_0 _ _ l0_1 ((rd_T71 l0_1 x3_2).f0) ((rd_T71 l0_1 x3_2).f1) ((rd_T71 l0_1 x3_2).f2) (wrap64 (x3_2 + 1)) true _ ?side1 ?side2 A16.out).mono ?_); (case side1 => exact Kd.C_below HR0_1.out (by repeat (first | (with_reducible first | exact HB.out | apply bwA | apply bwN | apply bwD | refine below_set ?_ GE246.out | refine below_set ?_ GE249.out) | exact HB.out))); (case side2 => exact HC0_1.out); rintro e w21 ⟨rfl, hb⟩; have n0_ := Aside0.mk (blk_below (g := gb246) (o := .cells #[.int .i64 a0_0, .slice (some ad248) l0_1.length c0_1] 25 (0, 0)) (by (with_reducible repeat (first | refine blk_drewN ?_ _ | refine blk_drew ?_ | refine blk_alloc ?_ _)); refine blk_far ?_ NB246_249.out _; (with_reducible repeat (first | refine blk_drewN ?_ _ | refine blk_drew ?_ | refine blk_alloc ?_ _)); refine blk_far ?_ NB246_249.out _; (with_reducible repeat (first | refine blk_drewN ?_ _ | refine blk_drew ?_ | refine blk_alloc ?_ _)); refine blk_far ?_ NB246_249.out _; (with_reducible repeat (first | refine blk_drewN ?_ _ | refine blk_drew ?_ | refine blk_alloc ?_ _)); exact BK246.out) hb); have n1_ := Aside0.mk (blk_below (g := gb249) (o := .cells #[.int .i64 ((rd_T71 l0_1 x3_2).f0), .int .i64 ((rd_T71 l0_1 x3_2).f1), .int .i64 ((rd_T71 l0_1 x3_2).f2)] 71 (0, 0)) (by (with_reducible repeat (first | refine blk_drewN ?_ _ | refine blk_drew ?_ | refine blk_alloc ?_ _)); refine blk_put (cs := #[.int .i64 ((rd_T71 l0_1 x3_2).f0), .int .i64 ((rd_T71 l0_1 x3_2).f1), .int .i64 0]) ?_ 2 _ rfl; (with_reducible repeat (first | refine blk_drewN ?_ _ | refine blk_drew ?_ | refine blk_alloc ?_ _)); refine blk_put (cs := #[.int .i64 ((rd_T71 l0_1 x3_2).f0), .int .i64 0, .int .i64 0]) ?_ 1 _ rfl; (with_reducible repeat (first | refine blk_drewN ?_ _ | refine blk_drew ?_ | refine blk_alloc ?_ _)); refine blk_put (cs := #[.int .i64 0, .int .i64 0, .int .i64 0]) ?_ 0 _ rfl; (with_reducible repeat (first | refine blk_drewN ?_ _ | refine blk_drew ?_ | refine blk_alloc ?_ _)); exact BK249.out) hb); have n2_ := Aside0.mk (below_step (by repeat (first | (with_reducible first | exact HB.out | apply bwA | apply bwN | apply bwD | refine below_set ?_ GE246.out | refine below_set ?_ GE249.out) | exact HB.out)) hb); clear BK246; clear BK249; clear HB; have BK246 := n0_; have BK249 := n1_; have HB := n2_; clear n0_ n1_ n2_; (try clear hb); (try clear hb2); (try clear hk); (try clear hi); have hcz22_0 : w21.cell? ⟨gb249, 0, none⟩ = some (.int .i64 ((rd_T71 l0_1 x3_2).f0)) := (blk_cell BK249.out 0).trans rfl; have hcz22_1 : w21.cell? ⟨gb249, 1, none⟩ = some (.int .i64 ((rd_T71 l0_1 x3_2).f1)) := (blk_cell BK249.out 1).trans rfl; have hcz22_2 : w21.cell? ⟨gb249, 2, none⟩ = some (.int .i64 ((rd_T71 l0_1 x3_2).f2)) := (blk_cell BK249.out 2).trans rfl; have hfz22_0 := blk_frozen BK249.out 0; have hfz22_1 := blk_frozen BK249.out 1; have hfz22_2 := blk_frozen BK249.out 2)))
          go_meet
          case rel => exact ⟨_, ((((rd_T71 l0_1 x3_2).f1) == ((rd_T71 l0_1 x3_2).f2))), rsd, H', ⟨by have := HJ1.out; have := HK2.out; first | omega | exact Nat.le_refl _⟩, ⟨bvK BK246.out⟩, ⟨bvK BK249.out⟩, ⟨by repeat (first | (with_reducible first | exact HB.out | apply bwA | apply bwN | apply bwD | refine below_set ?_ GE246.out | refine below_set ?_ GE249.out) | exact HB.out)⟩⟩
         ·replace c17 := Bool.eq_false_iff.mpr c17
          subst c17
          have H1 : (spec_DiagramValid.j2 k2 x3_2 true a0_0 l0_1 ((rd_T71 l0_1 x3_2).f0) ((rd_T71 l0_1 x3_2).f1) ((rd_T71 l0_1 x3_2).f2)) = some r := by rw [if_neg (show ¬ (false = true) by decide)] at H; exact H
          clear H
          have H := H1
          clear H1
          have H' := Aside0.mk H
          clear H
          have hnb23 := NB246_249.out
          have hnc23 := NB249_246.out
          have hcz24_0 : w13.cell? ⟨gb246, 0, none⟩ = some (.int .i64 a0_0) := (blk_cell BK246.out 0).trans rfl
          have hcz24_1 : w13.cell? ⟨gb246, 1, none⟩ = some (.slice (some ad248) l0_1.length c0_1) := (blk_cell BK246.out 1).trans rfl
          have hfz24_0 := blk_frozen BK246.out 0
          have hfz24_1 := blk_frozen BK246.out 1
          have hcz25_0 : w13.cell? ⟨gb249, 0, none⟩ = some (.int .i64 0) := (blk_cell BK249.out 0).trans rfl
          have hcz25_1 : w13.cell? ⟨gb249, 1, none⟩ = some (.int .i64 0) := (blk_cell BK249.out 1).trans rfl
          have hcz25_2 : w13.cell? ⟨gb249, 2, none⟩ = some (.int .i64 0) := (blk_cell BK249.out 2).trans rfl
          have hfz25_0 := blk_frozen BK249.out 0
          have hfz25_1 := blk_frozen BK249.out 1
          have hfz25_2 := blk_frozen BK249.out 2
          go_wp2_with (first | (go_at_call 59; (with_reducible refine (spec_l8Fork.calls k2 a0_0 _ _ l0_1 ((rd_T71 l0_1 x3_2).f0) ((rd_T71 l0_1 x3_2).f1) ((rd_T71 l0_1 x3_2).f2) (wrap64 (x3_2 + 1)) false _ ?side1 ?side2 A16.out).mono ?_); (case side1 => exact Kd.C_below HR0_1.out (by repeat (first | (with_reducible first | exact HB.out | apply bwA | apply bwN | apply bwD | refine below_set ?_ GE246.out | refine below_set ?_ GE249.out) | exact HB.out))); (case side2 => exact HC0_1.out); rintro e w26 ⟨rfl, hb⟩; have n0_ := Aside0.mk (blk_below (g := gb246) (o := .cells #[.int .i64 a0_0, .slice (some ad248) l0_1.length c0_1] 25 (0, 0)) (by (with_reducible repeat (first | refine blk_drewN ?_ _ | refine blk_drew ?_ | refine blk_alloc ?_ _)); refine blk_far ?_ NB246_249.out _; (with_reducible repeat (first | refine blk_drewN ?_ _ | refine blk_drew ?_ | refine blk_alloc ?_ _)); refine blk_far ?_ NB246_249.out _; (with_reducible repeat (first | refine blk_drewN ?_ _ | refine blk_drew ?_ | refine blk_alloc ?_ _)); refine blk_far ?_ NB246_249.out _; (with_reducible repeat (first | refine blk_drewN ?_ _ | refine blk_drew ?_ | refine blk_alloc ?_ _)); exact BK246.out) hb); have n1_ := Aside0.mk (blk_below (g := gb249) (o := .cells #[.int .i64 ((rd_T71 l0_1 x3_2).f0), .int .i64 ((rd_T71 l0_1 x3_2).f1), .int .i64 ((rd_T71 l0_1 x3_2).f2)] 71 (0, 0)) (by (with_reducible repeat (first | refine blk_drewN ?_ _ | refine blk_drew ?_ | refine blk_alloc ?_ _)); refine blk_put (cs := #[.int .i64 ((rd_T71 l0_1 x3_2).f0), .int .i64 ((rd_T71 l0_1 x3_2).f1), .int .i64 0]) ?_ 2 _ rfl; (with_reducible repeat (first | refine blk_drewN ?_ _ | refine blk_drew ?_ | refine blk_alloc ?_ _)); refine blk_put (cs := #[.int .i64 ((rd_T71 l0_1 x3_2).f0), .int .i64 0, .int .i64 0]) ?_ 1 _ rfl; (with_reducible repeat (first | refine blk_drewN ?_ _ | refine blk_drew ?_ | refine blk_alloc ?_ _)); refine blk_put (cs := #[.int .i64 0, .int .i64 0, .int .i64 0]) ?_ 0 _ rfl; (with_reducible repeat (first | refine blk_drewN ?_ _ | refine blk_drew ?_ | refine blk_alloc ?_ _)); exact BK249.out) hb); have n2_ := Aside0.mk (below_step (by repeat (first | (with_reducible first | exact HB.out | apply bwA | apply bwN | apply bwD | refine below_set ?_ GE246.out | refine below_set ?_ GE249.out) | exact HB.out)) hb); clear BK246; clear BK249; clear HB; have BK246 := n0_; have BK249 := n1_; have HB := n2_; clear n0_ n1_ n2_; (try clear hb); (try clear hb2); (try clear hk); (try clear hi)))
          repeat (go_quiet (first | (go_at_call 59; (with_reducible refine (spec_l8Fork.calls k2 a0_0 _ _ l0_1 ((rd_T71 l0_1 x3_2).f0) ((rd_T71 l0_1 x3_2).f1) ((rd_T71 l0_1 x3_2).f2) (wrap64 (x3_2 + 1)) false _ ?side1 ?side2 A16.out).mono ?_); (case side1 => exact Kd.C_below HR0_1.out (by repeat (first | (with_reducible first | exact HB.out | apply bwA | apply bwN | apply bwD | refine below_set ?_ GE246.out | refine below_set ?_ GE249.out) | exact HB.out))); (case side2 => exact HC0_1.out); rintro e w26 ⟨rfl, hb⟩; have n0_ := Aside0.mk (blk_below (g := gb246) (o := .cells #[.int .i64 a0_0, .slice (some ad248) l0_1.length c0_1] 25 (0, 0)) (by (with_reducible repeat (first | refine blk_drewN ?_ _ | refine blk_drew ?_ | refine blk_alloc ?_ _)); refine blk_far ?_ NB246_249.out _; (with_reducible repeat (first | refine blk_drewN ?_ _ | refine blk_drew ?_ | refine blk_alloc ?_ _)); refine blk_far ?_ NB246_249.out _; (with_reducible repeat (first | refine blk_drewN ?_ _ | refine blk_drew ?_ | refine blk_alloc ?_ _)); refine blk_far ?_ NB246_249.out _; (with_reducible repeat (first | refine blk_drewN ?_ _ | refine blk_drew ?_ | refine blk_alloc ?_ _)); exact BK246.out) hb); have n1_ := Aside0.mk (blk_below (g := gb249) (o := .cells #[.int .i64 ((rd_T71 l0_1 x3_2).f0), .int .i64 ((rd_T71 l0_1 x3_2).f1), .int .i64 ((rd_T71 l0_1 x3_2).f2)] 71 (0, 0)) (by (with_reducible repeat (first | refine blk_drewN ?_ _ | refine blk_drew ?_ | refine blk_alloc ?_ _)); refine blk_put (cs := #[.int .i64 ((rd_T71 l0_1 x3_2).f0), .int .i64 ((rd_T71 l0_1 x3_2).f1), .int .i64 0]) ?_ 2 _ rfl; (with_reducible repeat (first | refine blk_drewN ?_ _ | refine blk_drew ?_ | refine blk_alloc ?_ _)); refine blk_put (cs := #[.int .i64 ((rd_T71 l0_1 x3_2).f0), .int .i64 0, .int .i64 0]) ?_ 1 _ rfl; (with_reducible repeat (first | refine blk_drewN ?_ _ | refine blk_drew ?_ | refine blk_alloc ?_ _)); refine blk_put (cs := #[.int .i64 0, .int .i64 0, .int .i64 0]) ?_ 0 _ rfl; (with_reducible repeat (first | refine blk_drewN ?_ _ | refine blk_drew ?_ | refine blk_alloc ?_ _)); exact BK249.out) hb); have n2_ := Aside0.mk (below_step (by repeat (first | (with_reducible first | exact HB.out | apply bwA | apply bwN | apply bwD | refine below_set ?_ GE246.out | refine below_set ?_ GE249.out) | exact HB.out)) hb); clear BK246; clear BK249; clear HB; have BK246 := n0_; have BK249 := n1_; have HB := n2_; clear n0_ n1_ n2_; (try clear hb); (try clear hb2); (try clear hk); (try clear hi))); try go_wp2_with (first | (go_at_call 59; (with_reducible refine (spec_l8Fork.calls k2 a0_0 _ _ l0_1 ((rd_T71 l0_1 x3_2).f0) ((rd_T71 l0_1 x3_2).f1) ((rd_T71 l0_1 x3_2).f2) (wrap64 (x3_2 + 1)) false _ ?side1 ?side2 A16.out).mono ?_); (case side1 => exact Kd.C_below HR0_1.out (by repeat (first | (with_reducible first | exact HB.out | apply bwA | apply bwN | apply bwD | refine below_set ?_ GE246.out | refine below_set ?_ GE249.out) | exact HB.out))); (case side2 => exact HC0_1.out); rintro e w26 ⟨rfl, hb⟩; have n0_ := Aside0.mk (blk_below (g := gb246) (o := .cells #[.int .i64 a0_0, .slice (some ad248) l0_1.length c0_1] 25 (0, 0)) (by (with_reducible repeat (first | refine blk_drewN ?_ _ | refine blk_drew ?_ | refine blk_alloc ?_ _)); refine blk_far ?_ NB246_249.out _; (with_reducible repeat (first | refine blk_drewN ?_ _ | refine blk_drew ?_ | refine blk_alloc ?_ _)); refine blk_far ?_ NB246_249.out _; (with_reducible repeat (first | refine blk_drewN ?_ _ | refine blk_drew ?_ | refine blk_alloc ?_ _)); refine blk_far ?_ NB246_249.out _; (with_reducible repeat (first | refine blk_drewN ?_ _ | refine blk_drew ?_ | refine blk_alloc ?_ _)); exact BK246.out) hb); have n1_ := Aside0.mk (blk_below (g := gb249) (o := .cells #[.int .i64 ((rd_T71 l0_1 x3_2).f0), .int .i64 ((rd_T71 l0_1 x3_2).f1), .int .i64 ((rd_T71 l0_1 x3_2).f2)] 71 (0, 0)) (by (with_reducible repeat (first | refine blk_drewN ?_ _ | refine blk_drew ?_ | refine blk_alloc ?_ _)); refine blk_put (cs := #[.int .i64 ((rd_T71 l0_1 x3_2).f0), .int .i64 ((rd_T71 l0_1 x3_2).f1), .int .i64 0]) ?_ 2 _ rfl; (with_reducible repeat (first | refine blk_drewN ?_ _ | refine blk_drew ?_ | refine blk_alloc ?_ _)); refine blk_put (cs := #[.int .i64 ((rd_T71 l0_1 x3_2).f0), .int .i64 0, .int .i64 0]) ?_ 1 _ rfl; (with_reducible repeat (first | refine blk_drewN ?_ _ | refine blk_drew ?_ | refine blk_alloc ?_ _)); refine blk_put (cs := #[.int .i64 0, .int .i64 0, .int .i64 0]) ?_ 0 _ rfl; (with_reducible repeat (first | refine blk_drewN ?_ _ | refine blk_drew ?_ | refine blk_alloc ?_ _)); exact BK249.out) hb); have n2_ := Aside0.mk (below_step (by repeat (first | (with_reducible first | exact HB.out | apply bwA | apply bwN | apply bwD | refine below_set ?_ GE246.out | refine below_set ?_ GE249.out) | exact HB.out)) hb); clear BK246; clear BK249; clear HB; have BK246 := n0_; have BK249 := n1_; have HB := n2_; clear n0_ n1_ n2_; (try clear hb); (try clear hb2); (try clear hk); (try clear hi))))
          go_meet
          case rel => exact ⟨_, (true), rsd, H', ⟨by have := HJ1.out; have := HK2.out; first | omega | exact Nat.le_refl _⟩, ⟨bvK BK246.out⟩, ⟨bvK BK249.out⟩, ⟨by repeat (first | (with_reducible first | exact HB.out | apply bwA | apply bwN | apply bwD | refine below_set ?_ GE246.out | refine below_set ?_ GE249.out) | exact HB.out)⟩⟩
        case rest =>
         clear HC11
         try clear c1
         try clear c2
         try clear p2
         try clear q2
         try clear hx2
         try clear c5
         try clear p6
         try clear c8
         try clear c9
         try clear c9b0
         try clear c10
         try clear c10b0
         try clear c14
         try clear c17
         try clear c18
         try clear c23
         try clear p24
         try clear q24
         try clear hx24
         try clear hcz12_0
         try clear hcz12_1
         try clear hcz15_0
         try clear hcz15_1
         try clear hcz15_2
         try clear hcz19_0
         try clear hcz19_1
         try clear hcz20_0
         try clear hcz20_1
         try clear hcz20_2
         try clear hcz22_0
         try clear hcz22_1
         try clear hcz22_2
         try clear hcz24_0
         try clear hcz24_1
         try clear hcz25_0
         try clear hcz25_1
         try clear hcz25_2
         try clear hcz6_0
         try clear hcz6_1
         try clear hcz7_0
         try clear hcz7_1
         try clear hfz12_0
         try clear hfz12_1
         try clear hfz15_0
         try clear hfz15_1
         try clear hfz15_2
         try clear hfz19_0
         try clear hfz19_1
         try clear hfz20_0
         try clear hfz20_1
         try clear hfz20_2
         try clear hfz22_0
         try clear hfz22_1
         try clear hfz22_2
         try clear hfz24_0
         try clear hfz24_1
         try clear hfz25_0
         try clear hfz25_1
         try clear hfz25_2
         try clear hfz6_0
         try clear hfz6_1
         try clear hfz7_0
         try clear hfz7_1
         try clear hx248_0
         try clear hx248_1
         try clear hx248_2
         try clear p2
         try clear p248
         try clear q248
         obtain ⟨kq, x40_10, rfl, HA, HJ10, BK246, BK249, HB⟩ := hcut
         cases kq with
         | zero => exact absurd HA.out (by simp [spec_DiagramValid.j2])
         | succ kj10 =>
          have H := HA.out
          clear HA
          simp only [spec_DiagramValid.j2] at H
          by_cases c27 : x40_10 = true
          ·subst c27
           have H1 : (some false) = some r := by rw [if_pos rfl] at H; exact H
           clear H
           have H := H1
           clear H1
           obtain rfl := Option.some.inj H
           go_wp2
           repeat (go_quiet (fail); try go_wp2)
           go_ret
           exact ⟨ers, by repeat (first | (with_reducible first | exact HB.out | apply bwA | apply bwN | apply bwD | refine below_set ?_ GE246.out | refine below_set ?_ GE249.out) | exact HB.out)⟩
          ·replace c27 := Bool.eq_false_iff.mpr c27
           subst c27
           have H1 : (spec_DiagramValid.l1 kj10 x3_2 0 a0_0 l0_1 ((rd_T71 l0_1 x3_2).f0) ((rd_T71 l0_1 x3_2).f1) ((rd_T71 l0_1 x3_2).f2)) = some r := by rw [if_neg (show ¬ (false = true) by decide)] at H; exact H
           clear H
           have H := H1
           clear H1
           have H' := Aside0.mk H
           clear H
           go_wp2
           repeat (go_quiet (fail); try go_wp2)
           go_loopg [5] kj10 (fun kq v5 w' => ∃ (x5_4 : Int), v5 = .int .i64 x5_4 ∧ Aside0 (spec_DiagramValid.l1 kq x3_2 x5_4 a0_0 l0_1 ((rd_T71 l0_1 x3_2).f0) ((rd_T71 l0_1 x3_2).f1) ((rd_T71 l0_1 x3_2).f2) = some r) ∧ Aside0 (kq ≤ kj10) ∧ Aside0 (w'.heap[gb246]? = some (.cells #[.int .i64 a0_0, (.slice (some ad248) l0_1.length c0_1)] 25 (0, 0))) ∧ Aside0 (w'.heap[gb249]? = some (.cells #[.int .i64 ((rd_T71 l0_1 x3_2).f0), .int .i64 ((rd_T71 l0_1 x3_2).f1), .int .i64 ((rd_T71 l0_1 x3_2).f2)] 71 (0, 0))) ∧ Aside0 (Below w.heap.size w w'))
           case atStart => exact ⟨(0), rsd, H', ⟨Nat.le_refl _⟩, ⟨bvK BK246.out⟩, ⟨bvK BK249.out⟩, ⟨by repeat (first | (with_reducible first | exact HB.out | apply bwA | apply bwN | apply bwD | refine below_set ?_ GE246.out | refine below_set ?_ GE249.out) | exact HB.out)⟩⟩
           case round =>
            clear H'
            try clear c1
            try clear c2
            try clear p2
            try clear q2
            try clear hx2
            try clear c5
            try clear p6
            try clear c8
            try clear c9
            try clear c9b0
            try clear c10
            try clear c10b0
            try clear c14
            try clear c17
            try clear c18
            try clear c23
            try clear p24
            try clear q24
            try clear hx24
            try clear c27
            try clear hcz12_0
            try clear hcz12_1
            try clear hcz15_0
            try clear hcz15_1
            try clear hcz15_2
            try clear hcz19_0
            try clear hcz19_1
            try clear hcz20_0
            try clear hcz20_1
            try clear hcz20_2
            try clear hcz22_0
            try clear hcz22_1
            try clear hcz22_2
            try clear hcz24_0
            try clear hcz24_1
            try clear hcz25_0
            try clear hcz25_1
            try clear hcz25_2
            try clear hcz6_0
            try clear hcz6_1
            try clear hcz7_0
            try clear hcz7_1
            try clear hfz12_0
            try clear hfz12_1
            try clear hfz15_0
            try clear hfz15_1
            try clear hfz15_2
            try clear hfz19_0
            try clear hfz19_1
            try clear hfz20_0
            try clear hfz20_1
            try clear hfz20_2
            try clear hfz22_0
            try clear hfz22_1
            try clear hfz22_2
            try clear hfz24_0
            try clear hfz24_1
            try clear hfz25_0
            try clear hfz25_1
            try clear hfz25_2
            try clear hfz6_0
            try clear hfz6_1
            try clear hfz7_0
            try clear hfz7_1
            try clear hx248_0
            try clear hx248_1
            try clear hx248_2
            try clear p2
            try clear p24
            try clear p248
            try clear p6
            try clear q2
            try clear q24
            try clear q248
            obtain ⟨x5_4, rfl, HA, HK4, BK246, BK249, HB⟩ := hrel
            cases gk with
            | zero => exact absurd HA.out (by simp [spec_DiagramValid.l1])
            | succ k4 =>
             have H := HA.out
             clear HA
             simp only [spec_DiagramValid.l1] at H
             by_cases c28 : x5_4 < x3_2
             ·rw [if_pos c28] at H
              have c28b0 : decide (x5_4 < x3_2) = true := decide_eq_true c28
              clear c28
              by_cases c29 : 0 ≤ x5_4
              ·rw [if_pos c29] at H
               have c29b0 : decide (0 ≤ x5_4) = true := decide_eq_true c29
               clear c29
               by_cases c30 : x5_4 < (l0_1.length : Int)
               ·rw [if_pos c30] at H
                have c30b0 : decide (x5_4 < (l0_1.length : Int)) = true := decide_eq_true c30
                clear c30
                by_cases c31 : (((rd_T71 l0_1 x5_4).f0) == ((rd_T71 l0_1 x3_2).f0) && (((rd_T71 l0_1 x5_4).f1) == ((rd_T71 l0_1 x3_2).f1) && (((rd_T71 l0_1 x5_4).f2) == ((rd_T71 l0_1 x3_2).f2)))) = true
                ·rw [if_pos c31] at H
                 have c31b0 : (((rd_T71 l0_1 x5_4).f0) == ((rd_T71 l0_1 x3_2).f0) && (((rd_T71 l0_1 x5_4).f1) == ((rd_T71 l0_1 x3_2).f1) && (((rd_T71 l0_1 x5_4).f2) == ((rd_T71 l0_1 x3_2).f2)))) = true := c31
                 (try (have c31b1 : decide (((rd_T71 l0_1 x5_4).f0) = ((rd_T71 l0_1 x3_2).f0) && (((rd_T71 l0_1 x5_4).f1) == ((rd_T71 l0_1 x3_2).f1) && (((rd_T71 l0_1 x5_4).f2) == ((rd_T71 l0_1 x3_2).f2)))) = true := by simpa using c31))
                 (try (have c31b2 : (((rd_T71 l0_1 x5_4).f0) == ((rd_T71 l0_1 x3_2).f0) && (((rd_T71 l0_1 x5_4).f1) == ((rd_T71 l0_1 x3_2).f1) && (((rd_T71 l0_1 x5_4).f2) == ((rd_T71 l0_1 x3_2).f2)))) = true := by simpa using c31))
                 clear c31
                 obtain rfl := Option.some.inj H
                 have hnb32 := NB246_249.out
                 have hnc32 := NB249_246.out
                 have hcz33_0 : wr.cell? ⟨gb246, 0, none⟩ = some (.int .i64 a0_0) := (blk_cell BK246.out 0).trans rfl
                 have hcz33_1 : wr.cell? ⟨gb246, 1, none⟩ = some (.slice (some ad248) l0_1.length c0_1) := (blk_cell BK246.out 1).trans rfl
                 have hfz33_0 := blk_frozen BK246.out 0
                 have hfz33_1 := blk_frozen BK246.out 1
                 have p251 : 0 ≤ (x5_4 : Int) := oda
                 have q251 : x5_4 < (l0_1.length : Int) := oda
                 obtain ⟨ad251, e251, hx251_0, hx251_1, hx251_2⟩ := at_T71 HR0_1.out x5_4 p251 q251
                 obtain rfl : ad248 = ad251 := (by injection e251)
                 try replace hx251_0 := bct HB.out hx251_0
                 try replace hx251_1 := bct HB.out hx251_1
                 try replace hx251_2 := bct HB.out hx251_2
                 replace p251 := eq_true p251
                 replace q251 := eq_true q251
                 have hcz34_0 : wr.cell? ⟨gb249, 0, none⟩ = some (.int .i64 ((rd_T71 l0_1 x3_2).f0)) := (blk_cell BK249.out 0).trans rfl
                 have hcz34_1 : wr.cell? ⟨gb249, 1, none⟩ = some (.int .i64 ((rd_T71 l0_1 x3_2).f1)) := (blk_cell BK249.out 1).trans rfl
                 have hcz34_2 : wr.cell? ⟨gb249, 2, none⟩ = some (.int .i64 ((rd_T71 l0_1 x3_2).f2)) := (blk_cell BK249.out 2).trans rfl
                 have hfz34_0 := blk_frozen BK249.out 0
                 have hfz34_1 := blk_frozen BK249.out 1
                 have hfz34_2 := blk_frozen BK249.out 2
                 go_wp2
                 repeat (go_quiet (fail); try go_wp2)
                 go_ret
                 exact ⟨ers, by repeat (first | (with_reducible first | exact HB.out | apply bwA | apply bwN | apply bwD | refine below_set ?_ GE246.out | refine below_set ?_ GE249.out) | exact HB.out)⟩
                ·rw [if_neg c31] at H
                 have c31b0 : (((rd_T71 l0_1 x5_4).f0) == ((rd_T71 l0_1 x3_2).f0) && (((rd_T71 l0_1 x5_4).f1) == ((rd_T71 l0_1 x3_2).f1) && (((rd_T71 l0_1 x5_4).f2) == ((rd_T71 l0_1 x3_2).f2)))) = false := by simpa using c31
                 (try (have c31b1 : decide (((rd_T71 l0_1 x5_4).f0) = ((rd_T71 l0_1 x3_2).f0) && (((rd_T71 l0_1 x5_4).f1) == ((rd_T71 l0_1 x3_2).f1) && (((rd_T71 l0_1 x5_4).f2) == ((rd_T71 l0_1 x3_2).f2)))) = false := by simpa using c31))
                 (try (have c31b2 : (((rd_T71 l0_1 x5_4).f0) == ((rd_T71 l0_1 x3_2).f0) && (((rd_T71 l0_1 x5_4).f1) == ((rd_T71 l0_1 x3_2).f1) && (((rd_T71 l0_1 x5_4).f2) == ((rd_T71 l0_1 x3_2).f2)))) = false := by simpa using c31))
                 (try (have c31b3 : ¬ (((rd_T71 l0_1 x5_4).f0) = ((rd_T71 l0_1 x3_2).f0) && (((rd_T71 l0_1 x5_4).f1) == ((rd_T71 l0_1 x3_2).f1) && (((rd_T71 l0_1 x5_4).f2) == ((rd_T71 l0_1 x3_2).f2)))) := by simpa using c31))
                 clear c31
                 have H' := Aside0.mk H
                 clear H
                 have hnb35 := NB246_249.out
                 have hnc35 := NB249_246.out
                 have hcz36_0 : wr.cell? ⟨gb246, 0, none⟩ = some (.int .i64 a0_0) := (blk_cell BK246.out 0).trans rfl
                 have hcz36_1 : wr.cell? ⟨gb246, 1, none⟩ = some (.slice (some ad248) l0_1.length c0_1) := (blk_cell BK246.out 1).trans rfl
                 have hfz36_0 := blk_frozen BK246.out 0
                 have hfz36_1 := blk_frozen BK246.out 1
                 have p251 : 0 ≤ (x5_4 : Int) := oda
                 have q251 : x5_4 < (l0_1.length : Int) := oda
                 obtain ⟨ad251, e251, hx251_0, hx251_1, hx251_2⟩ := at_T71 HR0_1.out x5_4 p251 q251
                 obtain rfl : ad248 = ad251 := (by injection e251)
                 try replace hx251_0 := bct HB.out hx251_0
                 try replace hx251_1 := bct HB.out hx251_1
                 try replace hx251_2 := bct HB.out hx251_2
                 replace p251 := eq_true p251
                 replace q251 := eq_true q251
                 have hcz37_0 : wr.cell? ⟨gb249, 0, none⟩ = some (.int .i64 ((rd_T71 l0_1 x3_2).f0)) := (blk_cell BK249.out 0).trans rfl
                 have hcz37_1 : wr.cell? ⟨gb249, 1, none⟩ = some (.int .i64 ((rd_T71 l0_1 x3_2).f1)) := (blk_cell BK249.out 1).trans rfl
                 have hcz37_2 : wr.cell? ⟨gb249, 2, none⟩ = some (.int .i64 ((rd_T71 l0_1 x3_2).f2)) := (blk_cell BK249.out 2).trans rfl
                 have hfz37_0 := blk_frozen BK249.out 0
                 have hfz37_1 := blk_frozen BK249.out 1
                 have hfz37_2 := blk_frozen BK249.out 2
                 go_wp2
                 repeat (go_quiet (fail); try go_wp2)
                 go_roundg k4
                 case measure => have := HJ1.out; have := HK2.out; have := HJ10.out; have := HK4.out; omega
                 case rel => exact ⟨(wrap64 (x5_4 + 1)), rsd, H', ⟨by have := HJ1.out; have := HK2.out; have := HJ10.out; have := HK4.out; omega⟩, ⟨bvK BK246.out⟩, ⟨bvK BK249.out⟩, ⟨by repeat (first | (with_reducible first | exact HB.out | apply bwA | apply bwN | apply bwD | refine below_set ?_ GE246.out | refine below_set ?_ GE249.out) | exact HB.out)⟩⟩
               ·rw [if_neg c30] at H
                exact absurd H (by simp)
              ·rw [if_neg c29] at H
               exact absurd H (by simp)
             ·rw [if_neg c28] at H
              have c28b0 : decide (x5_4 < x3_2) = false := decide_eq_false c28
              clear c28
              have H' := Aside0.mk H
              clear H
              go_wp2
              repeat (go_quiet (fail); try go_wp2)
              go_roundg k4
              case measure => have := HJ1.out; have := HK2.out; have := HJ10.out; have := HK4.out; omega
              case rel => exact ⟨(wrap64 (x3_2 + 1)), rsd, H', ⟨by have := HJ1.out; have := HK2.out; have := HJ10.out; have := HK4.out; omega⟩, ⟨bvK BK246.out⟩, ⟨by repeat (first | (with_reducible first | exact HB.out | apply bwA | apply bwN | apply bwD | refine below_set ?_ GE246.out | refine below_set ?_ GE249.out) | exact HB.out)⟩⟩
       ·rw [if_neg c10] at H
        exact absurd H (by simp)
      ·rw [if_neg c9] at H
       have c9b0 : decide (x3_2 < (l0_1.length : Int)) = false := decide_eq_false c9
       clear c9
       obtain rfl := Option.some.inj H
       have hcz38_0 : wr.cell? ⟨gb246, 0, none⟩ = some (.int .i64 a0_0) := (blk_cell BK246.out 0).trans rfl
       have hcz38_1 : wr.cell? ⟨gb246, 1, none⟩ = some (.slice A0_1 l0_1.length c0_1) := (blk_cell BK246.out 1).trans rfl
       have hfz38_0 := blk_frozen BK246.out 0
       have hfz38_1 := blk_frozen BK246.out 1
       go_wp2
       repeat (go_quiet (fail); try go_wp2)
       go_ret
       exact ⟨ers, by repeat (first | (with_reducible first | exact HB.out | apply bwA | apply bwN | apply bwD | refine below_set ?_ GE246.out) | exact HB.out)⟩

/-! ### spec_l8At: function 94 -/
def spec_l8At.f (a0_0 : Int) (l0_1 : List (S71)) (a1 : Int) (a2 : Int) (a3 : Int) : Option (Int) := (spec_l8Var.f a0_0 l0_1 a1).bind fun t253 => (if t253 = a2 then (if a3 = 1 then (if 0 ≤ (wrap64 (a1 - 2)) then (if (wrap64 (a1 - 2)) < (l0_1.length : Int) then (some ((rd_T71 l0_1 (wrap64 (a1 - 2))).f2)) else (none)) else (none)) else (if 0 ≤ (wrap64 (a1 - 2)) then (if (wrap64 (a1 - 2)) < (l0_1.length : Int) then (some ((rd_T71 l0_1 (wrap64 (a1 - 2))).f1)) else (none)) else (none))) else (some a1))
set_option maxHeartbeats 8000000 in
set_option maxRecDepth 100000 in
theorem spec_l8At.calls (a0_0 : Int) (A0_1 : Option Addr) (c0_1 : Nat) (l0_1 : List (S71)) (a1 : Int) (a2 : Int) (a3 : Int) (r : Int) (w : World) (hr0_1 : Kd.C k71 w A0_1 l0_1.length l0_1) (hc0_1 : l0_1.length ≤ c0_1) (h : spec_l8At.f a0_0 l0_1 a1 a2 a3 = some r) :
  Calls Try.prog 94 #[.agg #[.int .i64 a0_0, .slice A0_1 l0_1.length c0_1], .int .i64 a1, .int .i64 a2, .int .i64 a3] w fun e w' => e = .returned (.int .i64 r) ∧ Below w.heap.size w w' := by
 have hu25 := Try.underlying25
 have HR0_1 := Aside0.mk hr0_1
 have HC0_1 := Aside0.mk hc0_1
 clear hr0_1 hc0_1
 have HB := Aside0.mk (Below.refl w.heap.size w)
 have H : ((spec_l8Var.f a0_0 l0_1 a1).bind fun t253 => (if t253 = a2 then (if a3 = 1 then (if 0 ≤ (wrap64 (a1 - 2)) then (if (wrap64 (a1 - 2)) < (l0_1.length : Int) then (some ((rd_T71 l0_1 (wrap64 (a1 - 2))).f2)) else (none)) else (none)) else (if 0 ≤ (wrap64 (a1 - 2)) then (if (wrap64 (a1 - 2)) < (l0_1.length : Int) then (some ((rd_T71 l0_1 (wrap64 (a1 - 2))).f1)) else (none)) else (none))) else (some a1))) = some r := h
 clear h
 replace H := Option.bind_eq_some_iff.mp H
 obtain ⟨t253, A50, H⟩ := H
 replace H : (if t253 = a2 then (if a3 = 1 then (if 0 ≤ (wrap64 (a1 - 2)) then (if (wrap64 (a1 - 2)) < (l0_1.length : Int) then (some ((rd_T71 l0_1 (wrap64 (a1 - 2))).f2)) else (none)) else (none)) else (if 0 ≤ (wrap64 (a1 - 2)) then (if (wrap64 (a1 - 2)) < (l0_1.length : Int) then (some ((rd_T71 l0_1 (wrap64 (a1 - 2))).f1)) else (none)) else (none))) else (some a1)) = some r := H
 have A5 := Aside0.mk A50
 clear A50
 by_cases c6 : t253 = a2
 ·rw [if_pos c6] at H
  have c6b0 : (t253 == a2) = true := beq_iff_eq.mpr c6
  have c6b1 : (t253 != a2) = false := bne_eq_false_iff_eq.mpr c6
  clear c6
  by_cases c7 : a3 = 1
  ·rw [if_pos c7] at H
   have c7b0 : (a3 == 1) = true := beq_iff_eq.mpr c7
   have c7b1 : (a3 != 1) = false := bne_eq_false_iff_eq.mpr c7
   clear c7
   obtain ⟨ji8, hji8⟩ : ∃ j_ : Int, (wrap64 (a1 - 2)) = j_ := ⟨_, rfl⟩
   replace H : (if 0 ≤ (ji8) then (if (ji8) < (l0_1.length : Int) then (some ((rd_T71 l0_1 (ji8)).f2)) else (none)) else (none)) = some r := by first | (rw [hji8] at H; exact H) | (simp only [hji8] at H ⊢; exact H)
   (try rw [hji8] at A5)
   have hji8w : (IntKind.i64.wrap (a1 - 2)) = ji8 := (i64_w _).trans hji8
   by_cases c9 : 0 ≤ (ji8)
   ·rw [if_pos c9] at H
    have c9b0 : decide (0 ≤ (ji8)) = true := decide_eq_true c9
    clear c9
    by_cases c10 : (ji8) < (l0_1.length : Int)
    ·rw [if_pos c10] at H
     have c10b0 : decide ((ji8) < (l0_1.length : Int)) = true := decide_eq_true c10
     clear c10
     obtain rfl := Option.some.inj H
     go_enter Try.func94, Try.ntmps94
     go_wp2_with (first | ((with_reducible refine gate_dst (N := 4) rfl ?_); refine box_event ?hg (N := 4) ?hd (cs := #[.int .i64 a0_0, .slice A0_1 l0_1.length c0_1]) (t := 25) ?hr ?_; (case hd => rfl); (case hg => rfl); (case hr => first | (go_simp; done) | (go_simp; rfl)); intro gb252 hg w11 hbox hb; have n0_ := Aside0.mk (below_step (by repeat (first | (with_reducible first | exact HB.out | apply bwA | apply bwN | apply bwD) | exact HB.out)) hb); have n1_ := Aside0.mk (hbox); have n2_ := Aside0.mk ((by rw [hg]; exact (below_size (by repeat (first | (with_reducible first | exact HB.out | apply bwA | apply bwN | apply bwD) | exact HB.out))) : w.heap.size ≤ gb252)); have n3_ := Aside0.mk ((by rw [hg]; exact (below_size (by repeat (first | (with_reducible first | exact HB.out | apply bwA | apply bwN | apply bwD) | exact HB.out))) : w.heap.size ≤ gb252)); clear HB; have HB := n0_; have BK252 := n1_; have GW252 := n2_; have GE252 := n3_; clear n0_ n1_ n2_ n3_; clear hb hbox hg; have hcz12_0 : w11.cell? ⟨gb252, 0, none⟩ = some (.int .i64 a0_0) := (blk_cell BK252.out 0).trans rfl; have hcz12_1 : w11.cell? ⟨gb252, 1, none⟩ = some (.slice A0_1 l0_1.length c0_1) := (blk_cell BK252.out 1).trans rfl; have hfz12_0 := blk_frozen BK252.out 0; have hfz12_1 := blk_frozen BK252.out 1) | ((with_reducible refine gate_callee (f := 99) rfl ?_); refine goesL_ (some 11) rfl rfl Try.func99 (by kernel_rfl) rfl #[.agg #[.int .i64 a0_0, .slice A0_1 l0_1.length c0_1], .int .i64 a1] rfl lmB ?_; (with_reducible refine (spec_l8Var.calls a0_0 _ _ l0_1 a1 t253 _ ?side1 ?side2 A5.out).mono ?_); (case side1 => repeat (first | exact (Kd.C_below HR0_1.out HB.out) | (with_reducible refine Kd.C_alloc ?_ _) | (with_reducible refine Kd.C_drewN ?_ _) | (with_reducible refine Kd.C_drew ?_))); (case side2 => exact HC0_1.out); rintro e w13 ⟨rfl, hb⟩; refine ⟨_, rfl, ?_⟩; have n0_ := Aside0.mk (blk_below (g := gb252) (o := .cells #[.int .i64 a0_0, .slice A0_1 l0_1.length c0_1] 25 (0, 0)) (bvK BK252.out) hb); have n1_ := Aside0.mk (below_step (by repeat (first | (with_reducible first | exact HB.out | apply bwA | apply bwN | apply bwD | refine below_set ?_ GE252.out) | exact HB.out)) hb); clear BK252; clear HB; have BK252 := n0_; have HB := n1_; clear n0_ n1_; (try clear hb); (try clear hb2); (try clear hk); (try clear hi); have hcz14_0 : w13.cell? ⟨gb252, 0, none⟩ = some (.int .i64 a0_0) := (blk_cell BK252.out 0).trans rfl; have hcz14_1 : w13.cell? ⟨gb252, 1, none⟩ = some (.slice A0_1 l0_1.length c0_1) := (blk_cell BK252.out 1).trans rfl; have hfz14_0 := blk_frozen BK252.out 0; have hfz14_1 := blk_frozen BK252.out 1; have p254 : 0 ≤ ((ji8) : Int) := oda; have q254 : (ji8) < (l0_1.length : Int) := oda; obtain ⟨ad254, e254, hx254_0, hx254_1, hx254_2⟩ := at_T71 HR0_1.out (ji8) p254 q254; cases e254; replace hx254_0 := bct HB.out hx254_0; replace hx254_1 := bct HB.out hx254_1; replace hx254_2 := bct HB.out hx254_2; replace p254 := eq_true p254; replace q254 := eq_true q254))
     go_ret
     exact ⟨by first | rfl | (simp [errW_none, errW_some] <;> rfl) | (simp only [← hji8]; first | rfl | (simp [errW_none, errW_some] <;> rfl)) | (simp [*, errW_none, errW_some] <;> rfl), by repeat (first | (with_reducible first | exact HB.out | apply bwA | apply bwN | apply bwD | refine below_set ?_ GE252.out) | exact HB.out)⟩
    ·rw [if_neg c10] at H
     exact absurd H (by simp)
   ·rw [if_neg c9] at H
    exact absurd H (by simp)
  ·rw [if_neg c7] at H
   have c7b0 : (a3 == 1) = false := beq_eq_false_iff_ne.mpr c7
   have c7b1 : (a3 != 1) = true := bne_iff_ne.mpr c7
   obtain ⟨ji15, hji15⟩ : ∃ j_ : Int, (wrap64 (a1 - 2)) = j_ := ⟨_, rfl⟩
   replace H : (if 0 ≤ (ji15) then (if (ji15) < (l0_1.length : Int) then (some ((rd_T71 l0_1 (ji15)).f1)) else (none)) else (none)) = some r := by first | (rw [hji15] at H; exact H) | (simp only [hji15] at H ⊢; exact H)
   (try rw [hji15] at A5)
   have hji15w : (IntKind.i64.wrap (a1 - 2)) = ji15 := (i64_w _).trans hji15
   by_cases c16 : 0 ≤ (ji15)
   ·rw [if_pos c16] at H
    have c16b0 : decide (0 ≤ (ji15)) = true := decide_eq_true c16
    clear c16
    by_cases c17 : (ji15) < (l0_1.length : Int)
    ·rw [if_pos c17] at H
     have c17b0 : decide ((ji15) < (l0_1.length : Int)) = true := decide_eq_true c17
     clear c17
     obtain rfl := Option.some.inj H
     go_enter Try.func94, Try.ntmps94
     go_wp2_with (first | ((with_reducible refine gate_dst (N := 4) rfl ?_); refine box_event ?hg (N := 4) ?hd (cs := #[.int .i64 a0_0, .slice A0_1 l0_1.length c0_1]) (t := 25) ?hr ?_; (case hd => rfl); (case hg => rfl); (case hr => first | (go_simp; done) | (go_simp; rfl)); intro gb252 hg w18 hbox hb; have n0_ := Aside0.mk (below_step (by repeat (first | (with_reducible first | exact HB.out | apply bwA | apply bwN | apply bwD) | exact HB.out)) hb); have n1_ := Aside0.mk (hbox); have n2_ := Aside0.mk ((by rw [hg]; exact (below_size (by repeat (first | (with_reducible first | exact HB.out | apply bwA | apply bwN | apply bwD) | exact HB.out))) : w.heap.size ≤ gb252)); have n3_ := Aside0.mk ((by rw [hg]; exact (below_size (by repeat (first | (with_reducible first | exact HB.out | apply bwA | apply bwN | apply bwD) | exact HB.out))) : w.heap.size ≤ gb252)); clear HB; have HB := n0_; have BK252 := n1_; have GW252 := n2_; have GE252 := n3_; clear n0_ n1_ n2_ n3_; clear hb hbox hg; have hcz19_0 : w18.cell? ⟨gb252, 0, none⟩ = some (.int .i64 a0_0) := (blk_cell BK252.out 0).trans rfl; have hcz19_1 : w18.cell? ⟨gb252, 1, none⟩ = some (.slice A0_1 l0_1.length c0_1) := (blk_cell BK252.out 1).trans rfl; have hfz19_0 := blk_frozen BK252.out 0; have hfz19_1 := blk_frozen BK252.out 1) | ((with_reducible refine gate_callee (f := 99) rfl ?_); refine goesL_ (some 11) rfl rfl Try.func99 (by kernel_rfl) rfl #[.agg #[.int .i64 a0_0, .slice A0_1 l0_1.length c0_1], .int .i64 a1] rfl lmB ?_; (with_reducible refine (spec_l8Var.calls a0_0 _ _ l0_1 a1 t253 _ ?side1 ?side2 A5.out).mono ?_); (case side1 => repeat (first | exact (Kd.C_below HR0_1.out HB.out) | (with_reducible refine Kd.C_alloc ?_ _) | (with_reducible refine Kd.C_drewN ?_ _) | (with_reducible refine Kd.C_drew ?_))); (case side2 => exact HC0_1.out); rintro e w20 ⟨rfl, hb⟩; refine ⟨_, rfl, ?_⟩; have n0_ := Aside0.mk (blk_below (g := gb252) (o := .cells #[.int .i64 a0_0, .slice A0_1 l0_1.length c0_1] 25 (0, 0)) (bvK BK252.out) hb); have n1_ := Aside0.mk (below_step (by repeat (first | (with_reducible first | exact HB.out | apply bwA | apply bwN | apply bwD | refine below_set ?_ GE252.out) | exact HB.out)) hb); clear BK252; clear HB; have BK252 := n0_; have HB := n1_; clear n0_ n1_; (try clear hb); (try clear hb2); (try clear hk); (try clear hi); have hcz21_0 : w20.cell? ⟨gb252, 0, none⟩ = some (.int .i64 a0_0) := (blk_cell BK252.out 0).trans rfl; have hcz21_1 : w20.cell? ⟨gb252, 1, none⟩ = some (.slice A0_1 l0_1.length c0_1) := (blk_cell BK252.out 1).trans rfl; have hfz21_0 := blk_frozen BK252.out 0; have hfz21_1 := blk_frozen BK252.out 1; have p255 : 0 ≤ ((ji15) : Int) := oda; have q255 : (ji15) < (l0_1.length : Int) := oda; obtain ⟨ad255, e255, hx255_0, hx255_1, hx255_2⟩ := at_T71 HR0_1.out (ji15) p255 q255; cases e255; replace hx255_0 := bct HB.out hx255_0; replace hx255_1 := bct HB.out hx255_1; replace hx255_2 := bct HB.out hx255_2; replace p255 := eq_true p255; replace q255 := eq_true q255))
     go_ret
     exact ⟨by first | rfl | (simp [errW_none, errW_some] <;> rfl) | (simp only [← hji15]; first | rfl | (simp [errW_none, errW_some] <;> rfl)) | (simp [*, errW_none, errW_some] <;> rfl), by repeat (first | (with_reducible first | exact HB.out | apply bwA | apply bwN | apply bwD | refine below_set ?_ GE252.out) | exact HB.out)⟩
    ·rw [if_neg c17] at H
     exact absurd H (by simp)
   ·rw [if_neg c16] at H
    exact absurd H (by simp)
 ·rw [if_neg c6] at H
  have c6b0 : (t253 == a2) = false := beq_eq_false_iff_ne.mpr c6
  have c6b1 : (t253 != a2) = true := bne_iff_ne.mpr c6
  obtain rfl := Option.some.inj H
  go_enter Try.func94, Try.ntmps94
  go_wp2_with (first | ((with_reducible refine gate_dst (N := 4) rfl ?_); refine box_event ?hg (N := 4) ?hd (cs := #[.int .i64 a0_0, .slice A0_1 l0_1.length c0_1]) (t := 25) ?hr ?_; (case hd => rfl); (case hg => rfl); (case hr => first | (go_simp; done) | (go_simp; rfl)); intro gb252 hg w22 hbox hb; have n0_ := Aside0.mk (below_step (by repeat (first | (with_reducible first | exact HB.out | apply bwA | apply bwN | apply bwD) | exact HB.out)) hb); have n1_ := Aside0.mk (hbox); have n2_ := Aside0.mk ((by rw [hg]; exact (below_size (by repeat (first | (with_reducible first | exact HB.out | apply bwA | apply bwN | apply bwD) | exact HB.out))) : w.heap.size ≤ gb252)); have n3_ := Aside0.mk ((by rw [hg]; exact (below_size (by repeat (first | (with_reducible first | exact HB.out | apply bwA | apply bwN | apply bwD) | exact HB.out))) : w.heap.size ≤ gb252)); clear HB; have HB := n0_; have BK252 := n1_; have GW252 := n2_; have GE252 := n3_; clear n0_ n1_ n2_ n3_; clear hb hbox hg; have hcz23_0 : w22.cell? ⟨gb252, 0, none⟩ = some (.int .i64 a0_0) := (blk_cell BK252.out 0).trans rfl; have hcz23_1 : w22.cell? ⟨gb252, 1, none⟩ = some (.slice A0_1 l0_1.length c0_1) := (blk_cell BK252.out 1).trans rfl; have hfz23_0 := blk_frozen BK252.out 0; have hfz23_1 := blk_frozen BK252.out 1) | ((with_reducible refine gate_callee (f := 99) rfl ?_); refine goesL_ (some 11) rfl rfl Try.func99 (by kernel_rfl) rfl #[.agg #[.int .i64 a0_0, .slice A0_1 l0_1.length c0_1], .int .i64 a1] rfl lmB ?_; (with_reducible refine (spec_l8Var.calls a0_0 _ _ l0_1 a1 t253 _ ?side1 ?side2 A5.out).mono ?_); (case side1 => repeat (first | exact (Kd.C_below HR0_1.out HB.out) | (with_reducible refine Kd.C_alloc ?_ _) | (with_reducible refine Kd.C_drewN ?_ _) | (with_reducible refine Kd.C_drew ?_))); (case side2 => exact HC0_1.out); rintro e w24 ⟨rfl, hb⟩; refine ⟨_, rfl, ?_⟩; have n0_ := Aside0.mk (blk_below (g := gb252) (o := .cells #[.int .i64 a0_0, .slice A0_1 l0_1.length c0_1] 25 (0, 0)) (bvK BK252.out) hb); have n1_ := Aside0.mk (below_step (by repeat (first | (with_reducible first | exact HB.out | apply bwA | apply bwN | apply bwD | refine below_set ?_ GE252.out) | exact HB.out)) hb); clear BK252; clear HB; have BK252 := n0_; have HB := n1_; clear n0_ n1_; (try clear hb); (try clear hb2); (try clear hk); (try clear hi)))
  go_ret
  exact ⟨ers, by repeat (first | (with_reducible first | exact HB.out | apply bwA | apply bwN | apply bwD | refine below_set ?_ GE252.out) | exact HB.out)⟩

end Go.Proofs.Ytpcompnmadpljaa.QFnDiagramRow
