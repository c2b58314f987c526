-- Written by a program of this session (mk.py). Lean checks it.
import Derived.Test.YtpcckoljocpchaaQFnCompactedx3
import Derived.Test.YtpcckoljocpchaaQFnCompactedx0
import Derived.Test.YtpcckoljocpchaaQFnCompactedx1
import Derived.Test.YtpcckoljocpchaaQFnCompactedx5
import Derived.Test.YtpcckoljocpchaaQFnCompactedx6
namespace Go.Proofs.Ytpcckoljocpchaa.QFnCompacted
open Go.RowKit Go.Proofs.YtpcckoljocpchaaW.PrintWords Go.Proofs.YtpcckoljocpchaaW.PrintLast Go.Proofs.YtpcckoljocpchaaW.PrintMore
attribute [local go_sem] max2_int min2_int max_two min_two max_three min_three max_four min_four   -- for this text's walks alone
set_option linter.unusedVariables false
set_option linter.unusedSimpArgs false

attribute [local go_sem high] eqA56
/-! ### spec_DiagramValid: function 88 -/
mutual
def spec_DiagramValid.j0 : Nat → Bool → Int → List (S56) → Option (Bool)
 | 0, _, _, _ => none
 | k + 1, x15, x132000, x132001 => if x15 = true then (some false) else (spec_DiagramValid.l0 k 0 x132000 x132001)
def spec_DiagramValid.l0 : Nat → Int → Int → List (S56) → Option (Bool)
 | 0, _, _, _ => none
 | k + 1, x3, x132000, x132001 => if x3 < (x132001.length : Int) then (if 0 ≤ x3 then ((spec_l8Fork.f k x132000 x132001 ((rd_T56 x132001 x3).f0) ((rd_T56 x132001 x3).f1) ((rd_T56 x132001 x3).f2) (wrap64 (x3 + 1))).bind fun t135 => (if t135 = true then (spec_DiagramValid.j2 k x3 (((rd_T56 x132001 x3).f1) == ((rd_T56 x132001 x3).f2)) x132000 x132001 ((rd_T56 x132001 x3).f0) ((rd_T56 x132001 x3).f1) ((rd_T56 x132001 x3).f2)) else (spec_DiagramValid.j2 k x3 true x132000 x132001 ((rd_T56 x132001 x3).f0) ((rd_T56 x132001 x3).f1) ((rd_T56 x132001 x3).f2)))) else (none)) else (some true)
def spec_DiagramValid.j2 : Nat → Int → Bool → Int → List (S56) → Int → Int → Int → Option (Bool)
 | 0, _, _, _, _, _, _, _ => none
 | k + 1, x3, x40, x132000, x132001, x135000, x135001, x135002 => if x40 = true then (some false) else (spec_DiagramValid.l1 k x3 0 x132000 x132001 x135000 x135001 x135002)
def spec_DiagramValid.l1 : Nat → Int → Int → Int → List (S56) → Int → Int → Int → Option (Bool)
 | 0, _, _, _, _, _, _, _ => none
 | k + 1, x3, x5, x132000, x132001, x135000, x135001, x135002 => if x5 < x3 then (if 0 ≤ x5 then (if x5 < (x132001.length : Int) then (if (((rd_T56 x132001 x5).f0) == x135000 && (((rd_T56 x132001 x5).f1) == x135001 && (((rd_T56 x132001 x5).f2) == x135002))) = true then (some false) else (spec_DiagramValid.l1 k x3 (wrap64 (x5 + 1)) x132000 x132001 x135000 x135001 x135002)) else (none)) else (none)) else (spec_DiagramValid.l0 k (wrap64 (x3 + 1)) x132000 x132001)
end
def spec_DiagramValid.f (k : Nat) (a0_0 : Int) (l0_1 : List (S56)) : Option (Bool) := (spec_l1In.f a0_0 0 12).bind fun t132 => (if t132 = true then (spec_DiagramValid.j0 k (decide ((l0_1.length : Int) > 2000)) a0_0 l0_1) else (spec_DiagramValid.j0 k true a0_0 l0_1))
theorem spec_DiagramValid.mono_l : ∀ k, (∀ y0 y1 y2, LeO (spec_DiagramValid.j0 k y0 y1 y2) (spec_DiagramValid.j0 (k + 1) y0 y1 y2)) ∧ (∀ y0 y1 y2, LeO (spec_DiagramValid.l0 k y0 y1 y2) (spec_DiagramValid.l0 (k + 1) y0 y1 y2)) ∧ (∀ y0 y1 y2 y3 y4 y5 y6, LeO (spec_DiagramValid.j2 k y0 y1 y2 y3 y4 y5 y6) (spec_DiagramValid.j2 (k + 1) y0 y1 y2 y3 y4 y5 y6)) ∧ (∀ y0 y1 y2 y3 y4 y5 y6, LeO (spec_DiagramValid.l1 k y0 y1 y2 y3 y4 y5 y6) (spec_DiagramValid.l1 (k + 1) y0 y1 y2 y3 y4 y5 y6))
 | 0 => ⟨fun _ _ _ r h => by simp [spec_DiagramValid.j0] at h, fun _ _ _ r h => by simp [spec_DiagramValid.l0] at h, fun _ _ _ _ _ _ _ r h => by simp [spec_DiagramValid.j2] at h, fun _ _ _ _ _ _ _ r h => by simp [spec_DiagramValid.l1] at h⟩
 | k + 1 => by
  obtain ⟨ih0, ih1, ih2, ih3⟩ := spec_DiagramValid.mono_l k
  refine ⟨?_, ?_, ?_, ?_⟩
  ·intro y0 y1 y2
   unfold spec_DiagramValid.j0
   repeat' first
   | (with_reducible exact ih0 _ _ _)
   | (with_reducible exact ih1 _ _ _)
   | (with_reducible exact ih2 _ _ _ _ _ _ _)
   | (with_reducible exact ih3 _ _ _ _ _ _ _)
   | (with_reducible exact spec_l8Fork.mono _ _ _ _ _ _ _)
   | (with_reducible exact LeO.refl _)
   | (with_reducible exact LeO.none _)
   | (with_reducible refine LeO.ite ?_ ?_)
   | (with_reducible refine LeO.bind ?_ (fun _ => ?_))
  ·intro y0 y1 y2
   unfold spec_DiagramValid.l0
   repeat' first
   | (with_reducible exact ih0 _ _ _)
   | (with_reducible exact ih1 _ _ _)
   | (with_reducible exact ih2 _ _ _ _ _ _ _)
   | (with_reducible exact ih3 _ _ _ _ _ _ _)
   | (with_reducible exact spec_l8Fork.mono _ _ _ _ _ _ _)
   | (with_reducible exact LeO.refl _)
   | (with_reducible exact LeO.none _)
   | (with_reducible refine LeO.ite ?_ ?_)
   | (with_reducible refine LeO.bind ?_ (fun _ => ?_))
  ·intro y0 y1 y2 y3 y4 y5 y6
   unfold spec_DiagramValid.j2
   repeat' first
   | (with_reducible exact ih0 _ _ _)
   | (with_reducible exact ih1 _ _ _)
   | (with_reducible exact ih2 _ _ _ _ _ _ _)
   | (with_reducible exact ih3 _ _ _ _ _ _ _)
   | (with_reducible exact spec_l8Fork.mono _ _ _ _ _ _ _)
   | (with_reducible exact LeO.refl _)
   | (with_reducible exact LeO.none _)
   | (with_reducible refine LeO.ite ?_ ?_)
   | (with_reducible refine LeO.bind ?_ (fun _ => ?_))
  ·intro y0 y1 y2 y3 y4 y5 y6
   unfold spec_DiagramValid.l1
   repeat' first
   | (with_reducible exact ih0 _ _ _)
   | (with_reducible exact ih1 _ _ _)
   | (with_reducible exact ih2 _ _ _ _ _ _ _)
   | (with_reducible exact ih3 _ _ _ _ _ _ _)
   | (with_reducible exact spec_l8Fork.mono _ _ _ _ _ _ _)
   | (with_reducible exact LeO.refl _)
   | (with_reducible exact LeO.none _)
   | (with_reducible refine LeO.ite ?_ ?_)
   | (with_reducible refine LeO.bind ?_ (fun _ => ?_))
theorem spec_DiagramValid.mono : ∀ a0 a1 k, LeO (spec_DiagramValid.f k a0 a1) (spec_DiagramValid.f (k + 1) a0 a1) := by
 intro a0 a1 k
 obtain ⟨ih0, ih1, ih2, ih3⟩ := spec_DiagramValid.mono_l k
 unfold spec_DiagramValid.f
 repeat' first
   | (with_reducible exact ih0 _ _ _)
   | (with_reducible exact ih1 _ _ _)
   | (with_reducible exact ih2 _ _ _ _ _ _ _)
   | (with_reducible exact ih3 _ _ _ _ _ _ _)
   | (with_reducible exact spec_l8Fork.mono _ _ _ _ _ _ _)
   | (with_reducible exact LeO.refl _)
   | (with_reducible exact LeO.none _)
   | (with_reducible refine LeO.ite ?_ ?_)
   | (with_reducible refine LeO.bind ?_ (fun _ => ?_))
set_option maxHeartbeats 8000000 in
set_option maxRecDepth 100000 in
theorem spec_DiagramValid.calls (k : Nat) (a0_0 : Int) (A0_1 : Option Addr) (c0_1 : Nat) (l0_1 : List (S56)) (r : Bool) (w : World) (hr0_1 : Kd.C k56 w A0_1 l0_1.length l0_1) (hc0_1 : l0_1.length ≤ c0_1) (h : spec_DiagramValid.f k a0_0 l0_1 = some r) :
  Calls Try.prog 88 #[.agg #[.int .i64 a0_0, .slice A0_1 l0_1.length c0_1]] w fun e w' => e = .returned (.bool r) ∧ Below w.heap.size w w' := by
 have hu48 := Try.underlying48
 have hu56 := Try.underlying56
 have HR0_1 := Aside0.mk hr0_1
 have HC0_1 := Aside0.mk hc0_1
 clear hr0_1 hc0_1
 have HB := Aside0.mk (Below.refl w.heap.size w)
 have H : ((spec_l1In.f a0_0 0 12).bind fun t132 => (if t132 = true then (spec_DiagramValid.j0 k (decide ((l0_1.length : Int) > 2000)) a0_0 l0_1) else (spec_DiagramValid.j0 k true a0_0 l0_1))) = some r := h
 clear h
 have HC2 := Aside0.mk H
 clear H
 go_enter Try.func88, Try.ntmps88
 go_upto_region 1 with (first | ((with_reducible refine gate_dst (N := 1) rfl ?_); (try (refine gate_guard (by rfl) ?_; dsimp only)); refine box_event ?hg (N := 1) ?hd (cs := #[.int .i64 a0_0, .slice A0_1 l0_1.length c0_1]) (t := 48) ?hr ?_; (case hd => rfl); (case hg => rfl); (case hr => first | (go_simp; done) | (go_simp; rfl)); intro gb131 hg w3 hbox hb; have n0_ := Aside0.mk (below_step (by repeat (first | (with_reducible first | exact HB.out | apply bwA | apply bwN | apply bwD) | exact HB.out)) hb); have n1_ := Aside0.mk (hbox); have n2_ := Aside0.mk ((by rw [hg]; exact (below_size (by repeat (first | (with_reducible first | exact HB.out | apply bwA | apply bwN | apply bwD) | exact HB.out))) : w.heap.size ≤ gb131)); have n3_ := Aside0.mk ((by rw [hg]; exact (below_size (by repeat (first | (with_reducible first | exact HB.out | apply bwA | apply bwN | apply bwD) | exact HB.out))) : w.heap.size ≤ gb131)); clear HB; have HB := n0_; have BK131 := n1_; have GW131 := n2_; have GE131 := n3_; clear n0_ n1_ n2_ n3_; clear hb hbox hg))
 repeat (go_quiet (first | ((with_reducible refine gate_dst (N := 1) rfl ?_); (try (refine gate_guard (by rfl) ?_; dsimp only)); refine box_event ?hg (N := 1) ?hd (cs := #[.int .i64 a0_0, .slice A0_1 l0_1.length c0_1]) (t := 48) ?hr ?_; (case hd => rfl); (case hg => rfl); (case hr => first | (go_simp; done) | (go_simp; rfl)); intro gb131 hg w3 hbox hb; have n0_ := Aside0.mk (below_step (by repeat (first | (with_reducible first | exact HB.out | apply bwA | apply bwN | apply bwD) | exact HB.out)) hb); have n1_ := Aside0.mk (hbox); have n2_ := Aside0.mk ((by rw [hg]; exact (below_size (by repeat (first | (with_reducible first | exact HB.out | apply bwA | apply bwN | apply bwD) | exact HB.out))) : w.heap.size ≤ gb131)); have n3_ := Aside0.mk ((by rw [hg]; exact (below_size (by repeat (first | (with_reducible first | exact HB.out | apply bwA | apply bwN | apply bwD) | exact HB.out))) : w.heap.size ≤ gb131)); clear HB; have HB := n0_; have BK131 := n1_; have GW131 := n2_; have GE131 := n3_; clear n0_ n1_ n2_ n3_; clear hb hbox hg)); go_upto_region 1 with (first | ((with_reducible refine gate_dst (N := 1) rfl ?_); (try (refine gate_guard (by rfl) ?_; dsimp only)); refine box_event ?hg (N := 1) ?hd (cs := #[.int .i64 a0_0, .slice A0_1 l0_1.length c0_1]) (t := 48) ?hr ?_; (case hd => rfl); (case hg => rfl); (case hr => first | (go_simp; done) | (go_simp; rfl)); intro gb131 hg w3 hbox hb; have n0_ := Aside0.mk (below_step (by repeat (first | (with_reducible first | exact HB.out | apply bwA | apply bwN | apply bwD) | exact HB.out)) hb); have n1_ := Aside0.mk (hbox); have n2_ := Aside0.mk ((by rw [hg]; exact (below_size (by repeat (first | (with_reducible first | exact HB.out | apply bwA | apply bwN | apply bwD) | exact HB.out))) : w.heap.size ≤ gb131)); have n3_ := Aside0.mk ((by rw [hg]; exact (below_size (by repeat (first | (with_reducible first | exact HB.out | apply bwA | apply bwN | apply bwD) | exact HB.out))) : w.heap.size ≤ gb131)); clear HB; have HB := n0_; have BK131 := n1_; have GW131 := n2_; have GE131 := n3_; clear n0_ n1_ n2_ n3_; clear hb hbox hg)))
 (try simp only [Act.put, List.setIfInBounds_toArray, List.set_cons_zero, List.set_cons_succ])
 go_cut [15] (fun v15 wc => ∃ (kq : Nat) (x15_1 : Bool), v15 = .bool x15_1 ∧ Aside0 (spec_DiagramValid.j0 kq x15_1 a0_0 l0_1 = some r) ∧ Aside0 (kq ≤ k) ∧ Aside0 (wc.heap[gb131]? = some (.cells #[.int .i64 a0_0, (.slice A0_1 l0_1.length c0_1)] 48 (0, 0))) ∧ Aside0 (Below w.heap.size w wc))
 case first =>
  have H := HC2.out
  clear HC2
  replace H := Option.bind_eq_some_iff.mp H
  obtain ⟨t132, A40, H⟩ := H
  replace H : (if t132 = true then (spec_DiagramValid.j0 k (decide ((l0_1.length : Int) > 2000)) a0_0 l0_1) else (spec_DiagramValid.j0 k true a0_0 l0_1)) = some r := H
  have A4 := Aside0.mk A40
  clear A40
  by_cases c5 : t132 = true
  ·subst c5
   have H1 : (spec_DiagramValid.j0 k (decide ((l0_1.length : Int) > 2000)) a0_0 l0_1) = some r := by rw [if_pos rfl] at H; exact H
   clear H
   have H := H1
   clear H1
   have H' := Aside0.mk H
   clear H
   have hcz6_0 : w3.cell? ⟨gb131, 0, none⟩ = some (.int .i64 a0_0) := (blk_cell BK131.out 0).trans rfl
   have hcz6_1 : w3.cell? ⟨gb131, 1, none⟩ = some (.slice A0_1 l0_1.length c0_1) := (blk_cell BK131.out 1).trans rfl
   have hfz6_0 := blk_frozen BK131.out 0
   have hfz6_1 := blk_frozen BK131.out 1
   go_wp2_with (first | (go_at_call 74; (with_reducible refine (spec_l1In.calls a0_0 0 12 true _ A4.out).mono ?_); rintro e w' ⟨rfl, ⟨nd, rfl⟩⟩; (try first | exact ⟨rfl, _, World.drewN_drewN _ _ _⟩ | exact ⟨rfl, _, Eq.trans (World.drewN_drewN _ _ _) (congrArg (World.drewN _) (Nat.add_assoc _ _ _))⟩)))
   repeat (go_quiet (first | (go_at_call 74; (with_reducible refine (spec_l1In.calls a0_0 0 12 true _ A4.out).mono ?_); rintro e w' ⟨rfl, ⟨nd, rfl⟩⟩; (try first | exact ⟨rfl, _, World.drewN_drewN _ _ _⟩ | exact ⟨rfl, _, Eq.trans (World.drewN_drewN _ _ _) (congrArg (World.drewN _) (Nat.add_assoc _ _ _))⟩))); try go_wp2_with (first | (go_at_call 74; (with_reducible refine (spec_l1In.calls a0_0 0 12 true _ A4.out).mono ?_); rintro e w' ⟨rfl, ⟨nd, rfl⟩⟩; (try first | exact ⟨rfl, _, World.drewN_drewN _ _ _⟩ | exact ⟨rfl, _, Eq.trans (World.drewN_drewN _ _ _) (congrArg (World.drewN _) (Nat.add_assoc _ _ _))⟩))))
   go_meet
   case rel => exact ⟨_, (decide ((l0_1.length : Int) > 2000)), rsd, H', ⟨by first | omega | exact Nat.le_refl _⟩, ⟨bvK BK131.out⟩, ⟨by repeat (first | (with_reducible first | exact HB.out | apply bwA | apply bwN | apply bwD | refine below_set ?_ GE131.out) | exact HB.out)⟩⟩
  ·replace c5 := Bool.eq_false_iff.mpr c5
   subst c5
   have H1 : (spec_DiagramValid.j0 k true a0_0 l0_1) = some r := by rw [if_neg (show ¬ (false = true) by decide)] at H; exact H
   clear H
   have H := H1
   clear H1
   have H' := Aside0.mk H
   clear H
   have hcz7_0 : w3.cell? ⟨gb131, 0, none⟩ = some (.int .i64 a0_0) := (blk_cell BK131.out 0).trans rfl
   have hcz7_1 : w3.cell? ⟨gb131, 1, none⟩ = some (.slice A0_1 l0_1.length c0_1) := (blk_cell BK131.out 1).trans rfl
   have hfz7_0 := blk_frozen BK131.out 0
   have hfz7_1 := blk_frozen BK131.out 1
   go_wp2_with (first | (go_at_call 74; (with_reducible refine (spec_l1In.calls a0_0 0 12 false _ A4.out).mono ?_); rintro e w' ⟨rfl, ⟨nd, rfl⟩⟩; (try first | exact ⟨rfl, _, World.drewN_drewN _ _ _⟩ | exact ⟨rfl, _, Eq.trans (World.drewN_drewN _ _ _) (congrArg (World.drewN _) (Nat.add_assoc _ _ _))⟩)))
   repeat (go_quiet (first | (go_at_call 74; (with_reducible refine (spec_l1In.calls a0_0 0 12 false _ A4.out).mono ?_); rintro e w' ⟨rfl, ⟨nd, rfl⟩⟩; (try first | exact ⟨rfl, _, World.drewN_drewN _ _ _⟩ | exact ⟨rfl, _, Eq.trans (World.drewN_drewN _ _ _) (congrArg (World.drewN _) (Nat.add_assoc _ _ _))⟩))); try go_wp2_with (first | (go_at_call 74; (with_reducible refine (spec_l1In.calls a0_0 0 12 false _ A4.out).mono ?_); rintro e w' ⟨rfl, ⟨nd, rfl⟩⟩; (try first | exact ⟨rfl, _, World.drewN_drewN _ _ _⟩ | exact ⟨rfl, _, Eq.trans (World.drewN_drewN _ _ _) (congrArg (World.drewN _) (Nat.add_assoc _ _ _))⟩))))
   go_meet
   case rel => exact ⟨_, (true), rsd, H', ⟨by first | omega | exact Nat.le_refl _⟩, ⟨bvK BK131.out⟩, ⟨by repeat (first | (with_reducible first | exact HB.out | apply bwA | apply bwN | apply bwD | refine below_set ?_ GE131.out) | exact HB.out)⟩⟩
 case rest =>
  clear HC2
  try clear p2
  try clear c5
  try clear hcz6_0
  try clear hcz6_1
  try clear hcz7_0
  try clear hcz7_1
  try clear hfz6_0
  try clear hfz6_1
  try clear hfz7_0
  try clear hfz7_1
  obtain ⟨kq, x15_1, rfl, HA, HJ1, BK131, HB⟩ := hcut
  cases kq with
  | zero => exact absurd HA.out (by simp [spec_DiagramValid.j0])
  | succ kj1 =>
   have H := HA.out
   clear HA
   simp only [spec_DiagramValid.j0] at H
   by_cases c8 : x15_1 = true
   ·subst c8
    have H1 : (some false) = some r := by rw [if_pos rfl] at H; exact H
    clear H
    have H := H1
    clear H1
    obtain rfl := Option.some.inj H
    go_wp2
    repeat (go_quiet (fail); try go_wp2)
    go_ret
    exact ⟨ers, by repeat (first | (with_reducible first | exact HB.out | apply bwA | apply bwN | apply bwD | refine below_set ?_ GE131.out) | exact HB.out)⟩
   ·replace c8 := Bool.eq_false_iff.mpr c8
    subst c8
    have H1 : (spec_DiagramValid.l0 kj1 0 a0_0 l0_1) = some r := by rw [if_neg (show ¬ (false = true) by decide)] at H; exact H
    clear H
    have H := H1
    clear H1
    have H' := Aside0.mk H
    clear H
    go_wp2
    repeat (go_quiet (fail); try go_wp2)
    go_loopg [3] kj1 (fun kq v3 w' => ∃ (x3_2 : Int), v3 = .int .i64 x3_2 ∧ Aside0 (spec_DiagramValid.l0 kq x3_2 a0_0 l0_1 = some r) ∧ Aside0 (kq ≤ kj1) ∧ Aside0 (w'.heap[gb131]? = some (.cells #[.int .i64 a0_0, (.slice A0_1 l0_1.length c0_1)] 48 (0, 0))) ∧ Aside0 (Below w.heap.size w w'))
    case atStart => exact ⟨(0), rsd, H', ⟨Nat.le_refl _⟩, ⟨bvK BK131.out⟩, ⟨by repeat (first | (with_reducible first | exact HB.out | apply bwA | apply bwN | apply bwD | refine below_set ?_ GE131.out) | exact HB.out)⟩⟩
    case round =>
     clear H'
     try clear p2
     try clear c5
     try clear c8
     try clear hcz6_0
     try clear hcz6_1
     try clear hcz7_0
     try clear hcz7_1
     try clear hfz6_0
     try clear hfz6_1
     try clear hfz7_0
     try clear hfz7_1
     try clear p2
     obtain ⟨x3_2, rfl, HA, HK2, BK131, HB⟩ := hrel
     cases gk with
     | zero => exact absurd HA.out (by simp [spec_DiagramValid.l0])
     | succ k2 =>
      have H := HA.out
      clear HA
      simp only [spec_DiagramValid.l0] at H
      by_cases c9 : x3_2 < (l0_1.length : Int)
      ·rw [if_pos c9] at H
       have c9b0 : decide (x3_2 < (l0_1.length : Int)) = true := decide_eq_true c9
       clear c9
       by_cases c10 : 0 ≤ x3_2
       ·rw [if_pos c10] at H
        have c10b0 : decide (0 ≤ x3_2) = true := decide_eq_true c10
        clear c10
        have HC11 := Aside0.mk H
        clear H
        have hcz12_0 : wr.cell? ⟨gb131, 0, none⟩ = some (.int .i64 a0_0) := (blk_cell BK131.out 0).trans rfl
        have hcz12_1 : wr.cell? ⟨gb131, 1, none⟩ = some (.slice A0_1 l0_1.length c0_1) := (blk_cell BK131.out 1).trans rfl
        have hfz12_0 := blk_frozen BK131.out 0
        have hfz12_1 := blk_frozen BK131.out 1
        have p133 : 0 ≤ (x3_2 : Int) := oda
        have q133 : x3_2 < (l0_1.length : Int) := oda
        obtain ⟨ad133, e133, hx133_0, hx133_1, hx133_2⟩ := at_T56 HR0_1.out x3_2 p133 q133
        cases e133
        try replace hx133_0 := bct HB.out hx133_0
        try replace hx133_1 := bct HB.out hx133_1
        try replace hx133_2 := bct HB.out hx133_2
        replace p133 := eq_true p133
        replace q133 := eq_true q133
        go_upto_region 7 with (first | ((with_reducible refine gate_dst (N := 4) rfl ?_); (try (refine gate_guard (by rfl) ?_; dsimp only)); refine box_event ?hg (N := 4) ?hd (cs := #[.int .i64 0, .int .i64 0, .int .i64 0]) (t := 56) ?hr ?_; (case hd => rfl); (case hg => rfl); (case hr => first | (go_simp; done) | (go_simp; rfl)); intro gb134 hg w13 hbox hb; have n0_ := Aside0.mk (blk_below (g := gb131) (o := .cells #[.int .i64 a0_0, .slice (some ad133) l0_1.length c0_1] 48 (0, 0)) (bvK BK131.out) hb); have n1_ := Aside0.mk (below_step (by repeat (first | (with_reducible first | exact HB.out | apply bwA | apply bwN | apply bwD | refine below_set ?_ GE131.out) | exact HB.out)) hb); have n2_ := Aside0.mk (hbox); have n3_ := Aside0.mk ((by rw [hg]; exact (below_size (by repeat (first | (with_reducible first | exact HB.out | apply bwA | apply bwN | apply bwD | refine below_set ?_ GE131.out) | exact HB.out))) : w.heap.size ≤ gb134)); have n4_ := Aside0.mk ((by rw [hg]; exact (below_size (by repeat (first | (with_reducible first | exact HB.out | apply bwA | apply bwN | apply bwD | refine below_set ?_ GE131.out) | exact HB.out))) : w.heap.size ≤ gb134)); have n5_ := Aside0.mk ((by rw [hg]; exact Nat.ne_of_lt (blk_lt (g := gb131) (o := .cells #[.int .i64 a0_0, .slice (some ad133) l0_1.length c0_1] 48 (0, 0)) (bvK BK131.out)) : gb131 ≠ gb134)); have n6_ := Aside0.mk ((by rw [hg]; exact Nat.ne_of_gt (blk_lt (g := gb131) (o := .cells #[.int .i64 a0_0, .slice (some ad133) l0_1.length c0_1] 48 (0, 0)) (bvK BK131.out)) : gb134 ≠ gb131)); clear BK131; clear HB; have BK131 := n0_; have HB := n1_; have BK134 := n2_; have GW134 := n3_; have GE134 := n4_; have NB131_134 := n5_; have NB134_131 := n6_; clear n0_ n1_ n2_ n3_ n4_ n5_ n6_; clear hb hbox hg; have hnb14 := NB134_131.out; have hnc14 := NB131_134.out; have hcz15_0 : w13.cell? ⟨gb134, 0, none⟩ = some (.int .i64 0) := (blk_cell BK134.out 0).trans rfl; have hcz15_1 : w13.cell? ⟨gb134, 1, none⟩ = some (.int .i64 0) := (blk_cell BK134.out 1).trans rfl; have hcz15_2 : w13.cell? ⟨gb134, 2, none⟩ = some (.int .i64 0) := (blk_cell BK134.out 2).trans rfl; have hfz15_0 := blk_frozen BK134.out 0; have hfz15_1 := blk_frozen BK134.out 1; have hfz15_2 := blk_frozen BK134.out 2))
        repeat (go_quiet (first | ((with_reducible refine gate_dst (N := 4) rfl ?_); (try (refine gate_guard (by rfl) ?_; dsimp only)); refine box_event ?hg (N := 4) ?hd (cs := #[.int .i64 0, .int .i64 0, .int .i64 0]) (t := 56) ?hr ?_; (case hd => rfl); (case hg => rfl); (case hr => first | (go_simp; done) | (go_simp; rfl)); intro gb134 hg w13 hbox hb; have n0_ := Aside0.mk (blk_below (g := gb131) (o := .cells #[.int .i64 a0_0, .slice (some ad133) l0_1.length c0_1] 48 (0, 0)) (bvK BK131.out) hb); have n1_ := Aside0.mk (below_step (by repeat (first | (with_reducible first | exact HB.out | apply bwA | apply bwN | apply bwD | refine below_set ?_ GE131.out) | exact HB.out)) hb); have n2_ := Aside0.mk (hbox); have n3_ := Aside0.mk ((by rw [hg]; exact (below_size (by repeat (first | (with_reducible first | exact HB.out | apply bwA | apply bwN | apply bwD | refine below_set ?_ GE131.out) | exact HB.out))) : w.heap.size ≤ gb134)); have n4_ := Aside0.mk ((by rw [hg]; exact (below_size (by repeat (first | (with_reducible first | exact HB.out | apply bwA | apply bwN | apply bwD | refine below_set ?_ GE131.out) | exact HB.out))) : w.heap.size ≤ gb134)); have n5_ := Aside0.mk ((by rw [hg]; exact Nat.ne_of_lt (blk_lt (g := gb131) (o := .cells #[.int .i64 a0_0, .slice (some ad133) l0_1.length c0_1] 48 (0, 0)) (bvK BK131.out)) : gb131 ≠ gb134)); have n6_ := Aside0.mk ((by rw [hg]; exact Nat.ne_of_gt (blk_lt (g := gb131) (o := .cells #[.int .i64 a0_0, .slice (some ad133) l0_1.length c0_1] 48 (0, 0)) (bvK BK131.out)) : gb134 ≠ gb131)); clear BK131; clear HB; have BK131 := n0_; have HB := n1_; have BK134 := n2_; have GW134 := n3_; have GE134 := n4_; have NB131_134 := n5_; have NB134_131 := n6_; clear n0_ n1_ n2_ n3_ n4_ n5_ n6_; clear hb hbox hg; have hnb14 := NB134_131.out; have hnc14 := NB131_134.out; have hcz15_0 : w13.cell? ⟨gb134, 0, none⟩ = some (.int .i64 0) := (blk_cell BK134.out 0).trans rfl; have hcz15_1 : w13.cell? ⟨gb134, 1, none⟩ = some (.int .i64 0) := (blk_cell BK134.out 1).trans rfl; have hcz15_2 : w13.cell? ⟨gb134, 2, none⟩ = some (.int .i64 0) := (blk_cell BK134.out 2).trans rfl; have hfz15_0 := blk_frozen BK134.out 0; have hfz15_1 := blk_frozen BK134.out 1; have hfz15_2 := blk_frozen BK134.out 2)); go_upto_region 7 with (first | ((with_reducible refine gate_dst (N := 4) rfl ?_); (try (refine gate_guard (by rfl) ?_; dsimp only)); refine box_event ?hg (N := 4) ?hd (cs := #[.int .i64 0, .int .i64 0, .int .i64 0]) (t := 56) ?hr ?_; (case hd => rfl); (case hg => rfl); (case hr => first | (go_simp; done) | (go_simp; rfl)); intro gb134 hg w13 hbox hb; have n0_ := Aside0.mk (blk_below (g := gb131) (o := .cells #[.int .i64 a0_0, .slice (some ad133) l0_1.length c0_1] 48 (0, 0)) (bvK BK131.out) hb); have n1_ := Aside0.mk (below_step (by repeat (first | (with_reducible first | exact HB.out | apply bwA | apply bwN | apply bwD | refine below_set ?_ GE131.out) | exact HB.out)) hb); have n2_ := Aside0.mk (hbox); have n3_ := Aside0.mk ((by rw [hg]; exact (below_size (by repeat (first | (with_reducible first | exact HB.out | apply bwA | apply bwN | apply bwD | refine below_set ?_ GE131.out) | exact HB.out))) : w.heap.size ≤ gb134)); have n4_ := Aside0.mk ((by rw [hg]; exact (below_size (by repeat (first | (with_reducible first | exact HB.out | apply bwA | apply bwN | apply bwD | refine below_set ?_ GE131.out) | exact HB.out))) : w.heap.size ≤ gb134)); have n5_ := Aside0.mk ((by rw [hg]; exact Nat.ne_of_lt (blk_lt (g := gb131) (o := .cells #[.int .i64 a0_0, .slice (some ad133) l0_1.length c0_1] 48 (0, 0)) (bvK BK131.out)) : gb131 ≠ gb134)); have n6_ := Aside0.mk ((by rw [hg]; exact Nat.ne_of_gt (blk_lt (g := gb131) (o := .cells #[.int .i64 a0_0, .slice (some ad133) l0_1.length c0_1] 48 (0, 0)) (bvK BK131.out)) : gb134 ≠ gb131)); clear BK131; clear HB; have BK131 := n0_; have HB := n1_; have BK134 := n2_; have GW134 := n3_; have GE134 := n4_; have NB131_134 := n5_; have NB134_131 := n6_; clear n0_ n1_ n2_ n3_ n4_ n5_ n6_; clear hb hbox hg; have hnb14 := NB134_131.out; have hnc14 := NB131_134.out; have hcz15_0 : w13.cell? ⟨gb134, 0, none⟩ = some (.int .i64 0) := (blk_cell BK134.out 0).trans rfl; have hcz15_1 : w13.cell? ⟨gb134, 1, none⟩ = some (.int .i64 0) := (blk_cell BK134.out 1).trans rfl; have hcz15_2 : w13.cell? ⟨gb134, 2, none⟩ = some (.int .i64 0) := (blk_cell BK134.out 2).trans rfl; have hfz15_0 := blk_frozen BK134.out 0; have hfz15_1 := blk_frozen BK134.out 1; have hfz15_2 := blk_frozen BK134.out 2)))
        (try simp only [Act.put, List.setIfInBounds_toArray, List.set_cons_zero, List.set_cons_succ])
        go_cut [40] (fun v40 wc => ∃ (kq : Nat) (x40_10 : Bool), v40 = .bool x40_10 ∧ Aside0 (spec_DiagramValid.j2 kq x3_2 x40_10 a0_0 l0_1 ((rd_T56 l0_1 x3_2).f0) ((rd_T56 l0_1 x3_2).f1) ((rd_T56 l0_1 x3_2).f2) = some r) ∧ Aside0 (kq ≤ k2) ∧ Aside0 (wc.heap[gb131]? = some (.cells #[.int .i64 a0_0, (.slice (some ad133) l0_1.length c0_1)] 48 (0, 0))) ∧ Aside0 (wc.heap[gb134]? = some (.cells #[.int .i64 ((rd_T56 l0_1 x3_2).f0), .int .i64 ((rd_T56 l0_1 x3_2).f1), .int .i64 ((rd_T56 l0_1 x3_2).f2)] 56 (0, 0))) ∧ Aside0 (Below w.heap.size w wc))
        case first =>
         have H := HC11.out
         clear HC11
         replace H := Option.bind_eq_some_iff.mp H
         obtain ⟨t135, A160, H⟩ := H
         replace H : (if t135 = true then (spec_DiagramValid.j2 k2 x3_2 (((rd_T56 l0_1 x3_2).f1) == ((rd_T56 l0_1 x3_2).f2)) a0_0 l0_1 ((rd_T56 l0_1 x3_2).f0) ((rd_T56 l0_1 x3_2).f1) ((rd_T56 l0_1 x3_2).f2)) else (spec_DiagramValid.j2 k2 x3_2 true a0_0 l0_1 ((rd_T56 l0_1 x3_2).f0) ((rd_T56 l0_1 x3_2).f1) ((rd_T56 l0_1 x3_2).f2))) = some r := H
         have A16 := Aside0.mk A160
         clear A160
         by_cases c17 : t135 = true
         ·subst c17
          have H1 : (spec_DiagramValid.j2 k2 x3_2 (((rd_T56 l0_1 x3_2).f1) == ((rd_T56 l0_1 x3_2).f2)) a0_0 l0_1 ((rd_T56 l0_1 x3_2).f0) ((rd_T56 l0_1 x3_2).f1) ((rd_T56 l0_1 x3_2).f2)) = some r := by rw [if_pos rfl] at H; exact H
          clear H
          have H := H1
          clear H1
          have H' := Aside0.mk H
          clear H
          have hnb18 := NB131_134.out
          have hnc18 := NB134_131.out
          have hcz19_0 : w13.cell? ⟨gb131, 0, none⟩ = some (.int .i64 a0_0) := (blk_cell BK131.out 0).trans rfl
          have hcz19_1 : w13.cell? ⟨gb131, 1, none⟩ = some (.slice (some ad133) l0_1.length c0_1) := (blk_cell BK131.out 1).trans rfl
          have hfz19_0 := blk_frozen BK131.out 0
          have hfz19_1 := blk_frozen BK131.out 1
          have hcz20_0 : w13.cell? ⟨gb134, 0, none⟩ = some (.int .i64 0) := (blk_cell BK134.out 0).trans rfl
          have hcz20_1 : w13.cell? ⟨gb134, 1, none⟩ = some (.int .i64 0) := (blk_cell BK134.out 1).trans rfl
          have hcz20_2 : w13.cell? ⟨gb134, 2, none⟩ = some (.int .i64 0) := (blk_cell BK134.out 2).trans rfl
          have hfz20_0 := blk_frozen BK134.out 0
          have hfz20_1 := blk_frozen BK134.out 1
          have hfz20_2 := blk_frozen BK134.out 2
          go_wp2_with (first | (go_at_call 123; (with_reducible refine (spec_l8Fork.calls k2 a0_0 _ _ l0_1 ((rd_T56 l0_1 x3_2).f0) ((rd_T56 l0_1 x3_2).f1) ((rd_T56 l0_1 x3_2).f2) (wrap64 (x3_2 + 1)) true _ ?side1 ?side2 A16.out).mono ?_); (case side1 => exact Kd.C_below HR0_1.out (by repeat (first | (with_reducible first | exact HB.out | apply bwA | apply bwN | apply bwD | refine below_set ?_ GE131.out | refine below_set ?_ GE134.out) | exact HB.out))); (case side2 => exact HC0_1.out); rintro e w21 ⟨rfl, hb⟩; have n0_ := Aside0.mk (blk_below (g := gb131) (o := .cells #[.int .i64 a0_0, .slice (some ad133) l0_1.length c0_1] 48 (0, 0)) (by (with_reducible repeat first | apply bkN | apply bkD | apply bkA); refine blk_far ?_ NB131_134.out _; (with_reducible repeat first | apply bkN | apply bkD | apply bkA); refine blk_far ?_ NB131_134.out _; (with_reducible repeat first | apply bkN | apply bkD | apply bkA); refine blk_far ?_ NB131_134.out _; (with_reducible repeat first | apply bkN | apply bkD | apply bkA); exact BK131.out) hb); have n1_ := Aside0.mk (blk_below (g := gb134) (o := .cells #[.int .i64 ((rd_T56 l0_1 x3_2).f0), .int .i64 ((rd_T56 l0_1 x3_2).f1), .int .i64 ((rd_T56 l0_1 x3_2).f2)] 56 (0, 0)) (by (with_reducible repeat first | apply bkN | apply bkD | apply bkA); refine blk_put (cs := #[.int .i64 ((rd_T56 l0_1 x3_2).f0), .int .i64 ((rd_T56 l0_1 x3_2).f1), .int .i64 0]) ?_ 2 _ rfl; (with_reducible repeat first | apply bkN | apply bkD | apply bkA); refine blk_put (cs := #[.int .i64 ((rd_T56 l0_1 x3_2).f0), .int .i64 0, .int .i64 0]) ?_ 1 _ rfl; (with_reducible repeat first | apply bkN | apply bkD | apply bkA); refine blk_put (cs := #[.int .i64 0, .int .i64 0, .int .i64 0]) ?_ 0 _ rfl; (with_reducible repeat first | apply bkN | apply bkD | apply bkA); exact BK134.out) hb); have n2_ := Aside0.mk (below_step (by repeat (first | (with_reducible first | exact HB.out | apply bwA | apply bwN | apply bwD | refine below_set ?_ GE131.out | refine below_set ?_ GE134.out) | exact HB.out)) hb); clear BK131; clear BK134; clear HB; have BK131 := n0_; have BK134 := n1_; have HB := n2_; clear n0_ n1_ n2_; (try clear hb); (try clear hb2); (try clear hk); (try clear hi); have hcz22_0 : w21.cell? ⟨gb134, 0, none⟩ = some (.int .i64 ((rd_T56 l0_1 x3_2).f0)) := (blk_cell BK134.out 0).trans rfl; have hcz22_1 : w21.cell? ⟨gb134, 1, none⟩ = some (.int .i64 ((rd_T56 l0_1 x3_2).f1)) := (blk_cell BK134.out 1).trans rfl; have hcz22_2 : w21.cell? ⟨gb134, 2, none⟩ = some (.int .i64 ((rd_T56 l0_1 x3_2).f2)) := (blk_cell BK134.out 2).trans rfl; have hfz22_0 := blk_frozen BK134.out 0; have hfz22_1 := blk_frozen BK134.out 1; have hfz22_2 := blk_frozen BK134.out 2))
          repeat (go_quiet (first | (go_at_call 123; (with_reducible refine (spec_l8Fork.calls k2 a0_0 _ _ l0_1 ((rd_T56 l0_1 x3_2).f0) ((rd_T56 l0_1 x3_2).f1) ((rd_T56 l0_1 x3_2).f2) (wrap64 (x3_2 + 1)) true _ ?side1 ?side2 A16.out).mono ?_); (case side1 => exact Kd.C_below HR0_1.out (by repeat (first | (with_reducible first | exact HB.out | apply bwA | apply bwN | apply bwD | refine below_set ?_ GE131.out | refine below_set ?_ GE134.out) | exact HB.out))); (case side2 => exact HC0_1.out); rintro e w21 ⟨rfl, hb⟩; have n0_ := Aside0.mk (blk_below (g := gb131) (o := .cells #[.int .i64 a0_0, .slice (some ad133) l0_1.length c0_1] 48 (0, 0)) (by (with_reducible repeat first | apply bkN | apply bkD | apply bkA); refine blk_far ?_ NB131_134.out _; (with_reducible repeat first | apply bkN | apply bkD | apply bkA); refine blk_far ?_ NB131_134.out _; (with_reducible repeat first | apply bkN | apply bkD | apply bkA); refine blk_far ?_ NB131_134.out _; (with_reducible repeat first | apply bkN | apply bkD | apply bkA); exact BK131.out) hb); have n1_ := Aside0.mk (blk_below (g := gb134) (o := .cells #[.int .i64 ((rd_T56 l0_1 x3_2).f0), .int .i64 ((rd_T56 l0_1 x3_2).f1), .int .i64 ((rd_T56 l0_1 x3_2).f2)] 56 (0, 0)) (by (with_reducible repeat first | apply bkN | apply bkD | apply bkA); refine blk_put (cs := #[.int .i64 ((rd_T56 l0_1 x3_2).f0), .int .i64 ((rd_T56 l0_1 x3_2).f1), .int .i64 0]) ?_ 2 _ rfl; (with_reducible repeat first | apply bkN | apply bkD | apply bkA); refine blk_put (cs := #[.int .i64 ((rd_T56 l0_1 x3_2).f0), .int .i64 0, .int .i64 0]) ?_ 1 _ rfl; (with_reducible repeat first | apply bkN | apply bkD | apply bkA); refine blk_put (cs := #[.int .i64 0, .int .i64 0, .int .i64 0]) ?_ 0 _ rfl; (with_reducible repeat first | apply bkN | apply bkD | apply bkA); exact BK134.out) hb); have n2_ := Aside0.mk (below_step (by repeat (first | (with_reducible first | exact HB.out | apply bwA | apply bwN | apply bwD | refine below_set ?_ GE131.out | refine below_set ?_ GE134.out) | exact HB.out)) hb); clear BK131; clear BK134; clear HB; have BK131 := n0_; have BK134 := n1_; have HB := n2_; clear n0_ n1_ n2_; (try clear hb); (try clear hb2); (try clear hk); (try clear hi); have hcz22_0 : w21.cell? ⟨gb134, 0, none⟩ = some (.int .i64 ((rd_T56 l0_1 x3_2).f0)) := (blk_cell BK134.out 0).trans rfl; have hcz22_1 : w21.cell? ⟨gb134, 1, none⟩ = some (.int .i64 ((rd_T56 l0_1 x3_2).f1)) := (blk_cell BK134.out 1).trans rfl; have hcz22_2 : w21.cell? ⟨gb134, 2, none⟩ = some (.int .i64 ((rd_T56 l0_1 x3_2).f2)) := (blk_cell BK134.out 2).trans rfl; have hfz22_0 := blk_frozen BK134.out 0; have hfz22_1 := blk_frozen BK134.out 1; have hfz22_2 := blk_frozen BK134.out 2)); try go_wp2_with (first | (go_at_call 123; (with_reducible refine (spec_l8Fork.calls k2 a0_0 _ _ l0_1 ((rd_T56 l0_1 x3_2).f0) ((rd_T56 l0_1 x3_2).f1) ((rd_T56 l0_1 x3_2).f2) (wrap64 (x3_2 + 1)) true _ ?side1 ?side2 A16.out).mono ?_); (case side1 => exact Kd.C_below HR0_1.out (by repeat (first | (with_reducible first | exact HB.out | apply bwA | apply bwN | apply bwD | refine below_set ?_ GE131.out | refine below_set ?_ GE134.out) | exact HB.out))); (case side2 => exact HC0_1.out); rintro e w21 ⟨rfl, hb⟩; have n0_ := Aside0.mk (blk_below (g := gb131) (o := .cells #[.int .i64 a0_0, .slice (some ad133) l0_1.length c0_1] 48 (0, 0)) (by (with_reducible repeat first | apply bkN | apply bkD | apply bkA); refine blk_far ?_ NB131_134.out _; (with_reducible repeat first | apply bkN | apply bkD | apply bkA); refine blk_far ?_ NB131_134.out _; (with_reducible repeat first | apply bkN | apply bkD | apply bkA); refine blk_far ?_ NB131_134.out _; (with_reducible repeat first | apply bkN | apply bkD | apply bkA); exact BK131.out) hb); have n1_ := Aside0.mk (blk_below (g := gb134) (o := .cells #[.int .i64 ((rd_T56 l0_1 x3_2).f0), .int .i64 ((rd_T56 l0_1 x3_2).f1), .int .i64 ((rd_T56 l0_1 x3_2).f2)] 56 (0, 0)) (by (with_reducible repeat first | apply bkN | apply bkD | apply bkA); refine blk_put (cs := #[.int .i64 ((rd_T56 l0_1 x3_2).f0), .int .i64 ((rd_T56 l0_1 x3_2).f1), .int .i64 0]) ?_ 2 _ rfl; (with_reducible repeat first | apply bkN | apply bkD | apply bkA); refine blk_put (cs := #[.int .i64 ((rd_T56 l0_1 x3_2).f0), .int .i64 0, .int .i64 0]) ?_ 1 _ rfl; (with_reducible repeat first | apply bkN | apply bkD | apply bkA); refine blk_put (cs := #[.int .i64 0, .int .i64 0, .int .i64 0]) ?_ 0 _ rfl; (with_reducible repeat first | apply bkN | apply bkD | apply bkA); exact BK134.out) hb); have n2_ := Aside0.mk (below_step (by repeat (first | (with_reducible first | exact HB.out | apply bwA | apply bwN | apply bwD | refine below_set ?_ GE131.out | refine below_set ?_ GE134.out) | exact HB.out)) hb); clear BK131; clear BK134; clear HB; have BK131 := n0_; have BK134 := n1_; have HB := n2_; clear n0_ n1_ n2_; (try clear hb); (try clear hb2); (try clear hk); (try clear hi); have hcz22_0 : w21.cell? ⟨gb134, 0, none⟩ = some (.int .i64 ((rd_T56 l0_1 x3_2).f0)) := (blk_cell BK134.out 0).trans rfl; have hcz22_1 : w21.cell? ⟨gb134, 1, none⟩ = some (.int .i64 ((rd_T56 l0_1 x3_2).f1)) := (blk_cell BK134.out 1).trans rfl; have hcz22_2 : w21.cell? ⟨gb134, 2, none⟩ = some (.int .i64 ((rd_T56 l0_1 x3_2).f2)) := (blk_cell BK134.out 2).trans rfl; have hfz22_0 := blk_frozen BK134.out 0; have hfz22_1 := blk_frozen BK134.out 1; have hfz22_2 := blk_frozen BK134.out 2)))
          go_meet
          case rel => exact ⟨_, ((((rd_T56 l0_1 x3_2).f1) == ((rd_T56 l0_1 x3_2).f2))), rsd, H', ⟨by have := HJ1.out; have := HK2.out; first | omega | exact Nat.le_refl _⟩, ⟨bvK BK131.out⟩, ⟨bvK BK134.out⟩, ⟨by repeat (first | (with_reducible first | exact HB.out | apply bwA | apply bwN | apply bwD | refine below_set ?_ GE131.out | refine below_set ?_ GE134.out) | exact HB.out)⟩⟩
         ·replace c17 := Bool.eq_false_iff.mpr c17
          subst c17
          have H1 : (spec_DiagramValid.j2 k2 x3_2 true a0_0 l0_1 ((rd_T56 l0_1 x3_2).f0) ((rd_T56 l0_1 x3_2).f1) ((rd_T56 l0_1 x3_2).f2)) = some r := by rw [if_neg (show ¬ (false = true) by decide)] at H; exact H
          clear H
          have H := H1
          clear H1
          have H' := Aside0.mk H
          clear H
          have hnb23 := NB131_134.out
          have hnc23 := NB134_131.out
          have hcz24_0 : w13.cell? ⟨gb131, 0, none⟩ = some (.int .i64 a0_0) := (blk_cell BK131.out 0).trans rfl
          have hcz24_1 : w13.cell? ⟨gb131, 1, none⟩ = some (.slice (some ad133) l0_1.length c0_1) := (blk_cell BK131.out 1).trans rfl
          have hfz24_0 := blk_frozen BK131.out 0
          have hfz24_1 := blk_frozen BK131.out 1
          have hcz25_0 : w13.cell? ⟨gb134, 0, none⟩ = some (.int .i64 0) := (blk_cell BK134.out 0).trans rfl
          have hcz25_1 : w13.cell? ⟨gb134, 1, none⟩ = some (.int .i64 0) := (blk_cell BK134.out 1).trans rfl
          have hcz25_2 : w13.cell? ⟨gb134, 2, none⟩ = some (.int .i64 0) := (blk_cell BK134.out 2).trans rfl
          have hfz25_0 := blk_frozen BK134.out 0
          have hfz25_1 := blk_frozen BK134.out 1
          have hfz25_2 := blk_frozen BK134.out 2
          go_wp2_with (first | (go_at_call 123; (with_reducible refine (spec_l8Fork.calls k2 a0_0 _ _ l0_1 ((rd_T56 l0_1 x3_2).f0) ((rd_T56 l0_1 x3_2).f1) ((rd_T56 l0_1 x3_2).f2) (wrap64 (x3_2 + 1)) false _ ?side1 ?side2 A16.out).mono ?_); (case side1 => exact Kd.C_below HR0_1.out (by repeat (first | (with_reducible first | exact HB.out | apply bwA | apply bwN | apply bwD | refine below_set ?_ GE131.out | refine below_set ?_ GE134.out) | exact HB.out))); (case side2 => exact HC0_1.out); rintro e w26 ⟨rfl, hb⟩; have n0_ := Aside0.mk (blk_below (g := gb131) (o := .cells #[.int .i64 a0_0, .slice (some ad133) l0_1.length c0_1] 48 (0, 0)) (by (with_reducible repeat first | apply bkN | apply bkD | apply bkA); refine blk_far ?_ NB131_134.out _; (with_reducible repeat first | apply bkN | apply bkD | apply bkA); refine blk_far ?_ NB131_134.out _; (with_reducible repeat first | apply bkN | apply bkD | apply bkA); refine blk_far ?_ NB131_134.out _; (with_reducible repeat first | apply bkN | apply bkD | apply bkA); exact BK131.out) hb); have n1_ := Aside0.mk (blk_below (g := gb134) (o := .cells #[.int .i64 ((rd_T56 l0_1 x3_2).f0), .int .i64 ((rd_T56 l0_1 x3_2).f1), .int .i64 ((rd_T56 l0_1 x3_2).f2)] 56 (0, 0)) (by (with_reducible repeat first | apply bkN | apply bkD | apply bkA); refine blk_put (cs := #[.int .i64 ((rd_T56 l0_1 x3_2).f0), .int .i64 ((rd_T56 l0_1 x3_2).f1), .int .i64 0]) ?_ 2 _ rfl; (with_reducible repeat first | apply bkN | apply bkD | apply bkA); refine blk_put (cs := #[.int .i64 ((rd_T56 l0_1 x3_2).f0), .int .i64 0, .int .i64 0]) ?_ 1 _ rfl; (with_reducible repeat first | apply bkN | apply bkD | apply bkA); refine blk_put (cs := #[.int .i64 0, .int .i64 0, .int .i64 0]) ?_ 0 _ rfl; (with_reducible repeat first | apply bkN | apply bkD | apply bkA); exact BK134.out) hb); have n2_ := Aside0.mk (below_step (by repeat (first | (with_reducible first | exact HB.out | apply bwA | apply bwN | apply bwD | refine below_set ?_ GE131.out | refine below_set ?_ GE134.out) | exact HB.out)) hb); clear BK131; clear BK134; clear HB; have BK131 := n0_; have BK134 := n1_; have HB := n2_; clear n0_ n1_ n2_; (try clear hb); (try clear hb2); (try clear hk); (try clear hi)))
          repeat (go_quiet (first | (go_at_call 123; (with_reducible refine (spec_l8Fork.calls k2 a0_0 _ _ l0_1 ((rd_T56 l0_1 x3_2).f0) ((rd_T56 l0_1 x3_2).f1) ((rd_T56 l0_1 x3_2).f2) (wrap64 (x3_2 + 1)) false _ ?side1 ?side2 A16.out).mono ?_); (case side1 => exact Kd.C_below HR0_1.out (by repeat (first | (with_reducible first | exact HB.out | apply bwA | apply bwN | apply bwD | refine below_set ?_ GE131.out | refine below_set ?_ GE134.out) | exact HB.out))); (case side2 => exact HC0_1.out); rintro e w26 ⟨rfl, hb⟩; have n0_ := Aside0.mk (blk_below (g := gb131) (o := .cells #[.int .i64 a0_0, .slice (some ad133) l0_1.length c0_1] 48 (0, 0)) (by (with_reducible repeat first | apply bkN | apply bkD | apply bkA); refine blk_far ?_ NB131_134.out _; (with_reducible repeat first | apply bkN | apply bkD | apply bkA); refine blk_far ?_ NB131_134.out _; (with_reducible repeat first | apply bkN | apply bkD | apply bkA); refine blk_far ?_ NB131_134.out _; (with_reducible repeat first | apply bkN | apply bkD | apply bkA); exact BK131.out) hb); have n1_ := Aside0.mk (blk_below (g := gb134) (o := .cells #[.int .i64 ((rd_T56 l0_1 x3_2).f0), .int .i64 ((rd_T56 l0_1 x3_2).f1), .int .i64 ((rd_T56 l0_1 x3_2).f2)] 56 (0, 0)) (by (with_reducible repeat first | apply bkN | apply bkD | apply bkA); refine blk_put (cs := #[.int .i64 ((rd_T56 l0_1 x3_2).f0), .int .i64 ((rd_T56 l0_1 x3_2).f1), .int .i64 0]) ?_ 2 _ rfl; (with_reducible repeat first | apply bkN | apply bkD | apply bkA); refine blk_put (cs := #[.int .i64 ((rd_T56 l0_1 x3_2).f0), .int .i64 0, .int .i64 0]) ?_ 1 _ rfl; (with_reducible repeat first | apply bkN | apply bkD | apply bkA); refine blk_put (cs := #[.int .i64 0, .int .i64 0, .int .i64 0]) ?_ 0 _ rfl; (with_reducible repeat first | apply bkN | apply bkD | apply bkA); exact BK134.out) hb); have n2_ := Aside0.mk (below_step (by repeat (first | (with_reducible first | exact HB.out | apply bwA | apply bwN | apply bwD | refine below_set ?_ GE131.out | refine below_set ?_ GE134.out) | exact HB.out)) hb); clear BK131; clear BK134; clear HB; have BK131 := n0_; have BK134 := n1_; have HB := n2_; clear n0_ n1_ n2_; (try clear hb); (try clear hb2); (try clear hk); (try clear hi))); try go_wp2_with (first | (go_at_call 123; (with_reducible refine (spec_l8Fork.calls k2 a0_0 _ _ l0_1 ((rd_T56 l0_1 x3_2).f0) ((rd_T56 l0_1 x3_2).f1) ((rd_T56 l0_1 x3_2).f2) (wrap64 (x3_2 + 1)) false _ ?side1 ?side2 A16.out).mono ?_); (case side1 => exact Kd.C_below HR0_1.out (by repeat (first | (with_reducible first | exact HB.out | apply bwA | apply bwN | apply bwD | refine below_set ?_ GE131.out | refine below_set ?_ GE134.out) | exact HB.out))); (case side2 => exact HC0_1.out); rintro e w26 ⟨rfl, hb⟩; have n0_ := Aside0.mk (blk_below (g := gb131) (o := .cells #[.int .i64 a0_0, .slice (some ad133) l0_1.length c0_1] 48 (0, 0)) (by (with_reducible repeat first | apply bkN | apply bkD | apply bkA); refine blk_far ?_ NB131_134.out _; (with_reducible repeat first | apply bkN | apply bkD | apply bkA); refine blk_far ?_ NB131_134.out _; (with_reducible repeat first | apply bkN | apply bkD | apply bkA); refine blk_far ?_ NB131_134.out _; (with_reducible repeat first | apply bkN | apply bkD | apply bkA); exact BK131.out) hb); have n1_ := Aside0.mk (blk_below (g := gb134) (o := .cells #[.int .i64 ((rd_T56 l0_1 x3_2).f0), .int .i64 ((rd_T56 l0_1 x3_2).f1), .int .i64 ((rd_T56 l0_1 x3_2).f2)] 56 (0, 0)) (by (with_reducible repeat first | apply bkN | apply bkD | apply bkA); refine blk_put (cs := #[.int .i64 ((rd_T56 l0_1 x3_2).f0), .int .i64 ((rd_T56 l0_1 x3_2).f1), .int .i64 0]) ?_ 2 _ rfl; (with_reducible repeat first | apply bkN | apply bkD | apply bkA); refine blk_put (cs := #[.int .i64 ((rd_T56 l0_1 x3_2).f0), .int .i64 0, .int .i64 0]) ?_ 1 _ rfl; (with_reducible repeat first | apply bkN | apply bkD | apply bkA); refine blk_put (cs := #[.int .i64 0, .int .i64 0, .int .i64 0]) ?_ 0 _ rfl; (with_reducible repeat first | apply bkN | apply bkD | apply bkA); exact BK134.out) hb); have n2_ := Aside0.mk (below_step (by repeat (first | (with_reducible first | exact HB.out | apply bwA | apply bwN | apply bwD | refine below_set ?_ GE131.out | refine below_set ?_ GE134.out) | exact HB.out)) hb); clear BK131; clear BK134; clear HB; have BK131 := n0_; have BK134 := n1_; have HB := n2_; clear n0_ n1_ n2_; (try clear hb); (try clear hb2); (try clear hk); (try clear hi))))
          go_meet
          case rel => exact ⟨_, (true), rsd, H', ⟨by have := HJ1.out; have := HK2.out; first | omega | exact Nat.le_refl _⟩, ⟨bvK BK131.out⟩, ⟨bvK BK134.out⟩, ⟨by repeat (first | (with_reducible first | exact HB.out | apply bwA | apply bwN | apply bwD | refine below_set ?_ GE131.out | refine below_set ?_ GE134.out) | exact HB.out)⟩⟩
        case rest =>
         clear HC11
         try clear c1
         try clear p1
         try clear q1
         try clear hx1
         try clear c2
         try clear p2
         try clear c5
         try clear p6
         try clear c8
         try clear c9
         try clear c9b0
         try clear c10
         try clear c10b0
         try clear p13
         try clear q13
         try clear hx13
         try clear c14
         try clear c17
         try clear c18
         try clear c23
         try clear hcz12_0
         try clear hcz12_1
         try clear hcz15_0
         try clear hcz15_1
         try clear hcz15_2
         try clear hcz19_0
         try clear hcz19_1
         try clear hcz20_0
         try clear hcz20_1
         try clear hcz20_2
         try clear hcz22_0
         try clear hcz22_1
         try clear hcz22_2
         try clear hcz24_0
         try clear hcz24_1
         try clear hcz25_0
         try clear hcz25_1
         try clear hcz25_2
         try clear hcz6_0
         try clear hcz6_1
         try clear hcz7_0
         try clear hcz7_1
         try clear hfz12_0
         try clear hfz12_1
         try clear hfz15_0
         try clear hfz15_1
         try clear hfz15_2
         try clear hfz19_0
         try clear hfz19_1
         try clear hfz20_0
         try clear hfz20_1
         try clear hfz20_2
         try clear hfz22_0
         try clear hfz22_1
         try clear hfz22_2
         try clear hfz24_0
         try clear hfz24_1
         try clear hfz25_0
         try clear hfz25_1
         try clear hfz25_2
         try clear hfz6_0
         try clear hfz6_1
         try clear hfz7_0
         try clear hfz7_1
         try clear hx133_0
         try clear hx133_1
         try clear hx133_2
         try clear p133
         try clear p2
         try clear q133
         obtain ⟨kq, x40_10, rfl, HA, HJ10, BK131, BK134, HB⟩ := hcut
         cases kq with
         | zero => exact absurd HA.out (by simp [spec_DiagramValid.j2])
         | succ kj10 =>
          have H := HA.out
          clear HA
          simp only [spec_DiagramValid.j2] at H
          by_cases c27 : x40_10 = true
          ·subst c27
           have H1 : (some false) = some r := by rw [if_pos rfl] at H; exact H
           clear H
           have H := H1
           clear H1
           obtain rfl := Option.some.inj H
           go_wp2
           repeat (go_quiet (fail); try go_wp2)
           go_ret
           exact ⟨ers, by repeat (first | (with_reducible first | exact HB.out | apply bwA | apply bwN | apply bwD | refine below_set ?_ GE131.out | refine below_set ?_ GE134.out) | exact HB.out)⟩
          ·replace c27 := Bool.eq_false_iff.mpr c27
           subst c27
           have H1 : (spec_DiagramValid.l1 kj10 x3_2 0 a0_0 l0_1 ((rd_T56 l0_1 x3_2).f0) ((rd_T56 l0_1 x3_2).f1) ((rd_T56 l0_1 x3_2).f2)) = some r := by rw [if_neg (show ¬ (false = true) by decide)] at H; exact H
           clear H
           have H := H1
           clear H1
           have H' := Aside0.mk H
           clear H
           go_wp2
           repeat (go_quiet (fail); try go_wp2)
           go_loopg [5] kj10 (fun kq v5 w' => ∃ (x5_4 : Int), v5 = .int .i64 x5_4 ∧ Aside0 (spec_DiagramValid.l1 kq x3_2 x5_4 a0_0 l0_1 ((rd_T56 l0_1 x3_2).f0) ((rd_T56 l0_1 x3_2).f1) ((rd_T56 l0_1 x3_2).f2) = some r) ∧ Aside0 (kq ≤ kj10) ∧ Aside0 (w'.heap[gb131]? = some (.cells #[.int .i64 a0_0, (.slice (some ad133) l0_1.length c0_1)] 48 (0, 0))) ∧ Aside0 (w'.heap[gb134]? = some (.cells #[.int .i64 ((rd_T56 l0_1 x3_2).f0), .int .i64 ((rd_T56 l0_1 x3_2).f1), .int .i64 ((rd_T56 l0_1 x3_2).f2)] 56 (0, 0))) ∧ Aside0 (Below w.heap.size w w'))
           case atStart => exact ⟨(0), rsd, H', ⟨Nat.le_refl _⟩, ⟨bvK BK131.out⟩, ⟨bvK BK134.out⟩, ⟨by repeat (first | (with_reducible first | exact HB.out | apply bwA | apply bwN | apply bwD | refine below_set ?_ GE131.out | refine below_set ?_ GE134.out) | exact HB.out)⟩⟩
           case round =>
            clear H'
            try clear c1
            try clear p1
            try clear q1
            try clear hx1
            try clear c2
            try clear p2
            try clear c5
            try clear p6
            try clear c8
            try clear c9
            try clear c9b0
            try clear c10
            try clear c10b0
            try clear p13
            try clear q13
            try clear hx13
            try clear c14
            try clear c17
            try clear c18
            try clear c23
            try clear c27
            try clear hcz12_0
            try clear hcz12_1
            try clear hcz15_0
            try clear hcz15_1
            try clear hcz15_2
            try clear hcz19_0
            try clear hcz19_1
            try clear hcz20_0
            try clear hcz20_1
            try clear hcz20_2
            try clear hcz22_0
            try clear hcz22_1
            try clear hcz22_2
            try clear hcz24_0
            try clear hcz24_1
            try clear hcz25_0
            try clear hcz25_1
            try clear hcz25_2
            try clear hcz6_0
            try clear hcz6_1
            try clear hcz7_0
            try clear hcz7_1
            try clear hfz12_0
            try clear hfz12_1
            try clear hfz15_0
            try clear hfz15_1
            try clear hfz15_2
            try clear hfz19_0
            try clear hfz19_1
            try clear hfz20_0
            try clear hfz20_1
            try clear hfz20_2
            try clear hfz22_0
            try clear hfz22_1
            try clear hfz22_2
            try clear hfz24_0
            try clear hfz24_1
            try clear hfz25_0
            try clear hfz25_1
            try clear hfz25_2
            try clear hfz6_0
            try clear hfz6_1
            try clear hfz7_0
            try clear hfz7_1
            try clear hx133_0
            try clear hx133_1
            try clear hx133_2
            try clear p1
            try clear p13
            try clear p133
            try clear p2
            try clear p6
            try clear q1
            try clear q13
            try clear q133
            obtain ⟨x5_4, rfl, HA, HK4, BK131, BK134, HB⟩ := hrel
            cases gk with
            | zero => exact absurd HA.out (by simp [spec_DiagramValid.l1])
            | succ k4 =>
             have H := HA.out
             clear HA
             simp only [spec_DiagramValid.l1] at H
             by_cases c28 : x5_4 < x3_2
             ·rw [if_pos c28] at H
              have c28b0 : decide (x5_4 < x3_2) = true := decide_eq_true c28
              clear c28
              by_cases c29 : 0 ≤ x5_4
              ·rw [if_pos c29] at H
               have c29b0 : decide (0 ≤ x5_4) = true := decide_eq_true c29
               clear c29
               by_cases c30 : x5_4 < (l0_1.length : Int)
               ·rw [if_pos c30] at H
                have c30b0 : decide (x5_4 < (l0_1.length : Int)) = true := decide_eq_true c30
                clear c30
                by_cases c31 : (((rd_T56 l0_1 x5_4).f0) == ((rd_T56 l0_1 x3_2).f0) && (((rd_T56 l0_1 x5_4).f1) == ((rd_T56 l0_1 x3_2).f1) && (((rd_T56 l0_1 x5_4).f2) == ((rd_T56 l0_1 x3_2).f2)))) = true
                ·rw [if_pos c31] at H
                 have c31b0 : (((rd_T56 l0_1 x5_4).f0) == ((rd_T56 l0_1 x3_2).f0) && (((rd_T56 l0_1 x5_4).f1) == ((rd_T56 l0_1 x3_2).f1) && (((rd_T56 l0_1 x5_4).f2) == ((rd_T56 l0_1 x3_2).f2)))) = true := c31
                 (try (have c31b1 : decide (((rd_T56 l0_1 x5_4).f0) = ((rd_T56 l0_1 x3_2).f0) && (((rd_T56 l0_1 x5_4).f1) == ((rd_T56 l0_1 x3_2).f1) && (((rd_T56 l0_1 x5_4).f2) == ((rd_T56 l0_1 x3_2).f2)))) = true := by simpa using c31))
                 (try (have c31b2 : (((rd_T56 l0_1 x5_4).f0) == ((rd_T56 l0_1 x3_2).f0) && (((rd_T56 l0_1 x5_4).f1) == ((rd_T56 l0_1 x3_2).f1) && (((rd_T56 l0_1 x5_4).f2) == ((rd_T56 l0_1 x3_2).f2)))) = true := by simpa using c31))
                 clear c31
                 obtain rfl := Option.some.inj H
                 have hnb32 := NB131_134.out
                 have hnc32 := NB134_131.out
                 have hcz33_0 : wr.cell? ⟨gb131, 0, none⟩ = some (.int .i64 a0_0) := (blk_cell BK131.out 0).trans rfl
                 have hcz33_1 : wr.cell? ⟨gb131, 1, none⟩ = some (.slice (some ad133) l0_1.length c0_1) := (blk_cell BK131.out 1).trans rfl
                 have hfz33_0 := blk_frozen BK131.out 0
                 have hfz33_1 := blk_frozen BK131.out 1
                 have p136 : 0 ≤ (x5_4 : Int) := oda
                 have q136 : x5_4 < (l0_1.length : Int) := oda
                 obtain ⟨ad136, e136, hx136_0, hx136_1, hx136_2⟩ := at_T56 HR0_1.out x5_4 p136 q136
                 obtain rfl : ad133 = ad136 := (by injection e136)
                 try replace hx136_0 := bct HB.out hx136_0
                 try replace hx136_1 := bct HB.out hx136_1
                 try replace hx136_2 := bct HB.out hx136_2
                 replace p136 := eq_true p136
                 replace q136 := eq_true q136
                 have hcz34_0 : wr.cell? ⟨gb134, 0, none⟩ = some (.int .i64 ((rd_T56 l0_1 x3_2).f0)) := (blk_cell BK134.out 0).trans rfl
                 have hcz34_1 : wr.cell? ⟨gb134, 1, none⟩ = some (.int .i64 ((rd_T56 l0_1 x3_2).f1)) := (blk_cell BK134.out 1).trans rfl
                 have hcz34_2 : wr.cell? ⟨gb134, 2, none⟩ = some (.int .i64 ((rd_T56 l0_1 x3_2).f2)) := (blk_cell BK134.out 2).trans rfl
                 have hfz34_0 := blk_frozen BK134.out 0
                 have hfz34_1 := blk_frozen BK134.out 1
                 have hfz34_2 := blk_frozen BK134.out 2
                 go_wp2
                 repeat (go_quiet (fail); try go_wp2)
                 go_ret
                 exact ⟨ers, by repeat (first | (with_reducible first | exact HB.out | apply bwA | apply bwN | apply bwD | refine below_set ?_ GE131.out | refine below_set ?_ GE134.out) | exact HB.out)⟩
                ·rw [if_neg c31] at H
                 have c31b0 : (((rd_T56 l0_1 x5_4).f0) == ((rd_T56 l0_1 x3_2).f0) && (((rd_T56 l0_1 x5_4).f1) == ((rd_T56 l0_1 x3_2).f1) && (((rd_T56 l0_1 x5_4).f2) == ((rd_T56 l0_1 x3_2).f2)))) = false := by simpa using c31
                 (try (have c31b1 : decide (((rd_T56 l0_1 x5_4).f0) = ((rd_T56 l0_1 x3_2).f0) && (((rd_T56 l0_1 x5_4).f1) == ((rd_T56 l0_1 x3_2).f1) && (((rd_T56 l0_1 x5_4).f2) == ((rd_T56 l0_1 x3_2).f2)))) = false := by simpa using c31))
                 (try (have c31b2 : (((rd_T56 l0_1 x5_4).f0) == ((rd_T56 l0_1 x3_2).f0) && (((rd_T56 l0_1 x5_4).f1) == ((rd_T56 l0_1 x3_2).f1) && (((rd_T56 l0_1 x5_4).f2) == ((rd_T56 l0_1 x3_2).f2)))) = false := by simpa using c31))
                 (try (have c31b3 : ¬ (((rd_T56 l0_1 x5_4).f0) = ((rd_T56 l0_1 x3_2).f0) && (((rd_T56 l0_1 x5_4).f1) == ((rd_T56 l0_1 x3_2).f1) && (((rd_T56 l0_1 x5_4).f2) == ((rd_T56 l0_1 x3_2).f2)))) := by simpa using c31))
                 clear c31
                 have H' := Aside0.mk H
                 clear H
                 have hnb35 := NB131_134.out
                 have hnc35 := NB134_131.out
                 have hcz36_0 : wr.cell? ⟨gb131, 0, none⟩ = some (.int .i64 a0_0) := (blk_cell BK131.out 0).trans rfl
                 have hcz36_1 : wr.cell? ⟨gb131, 1, none⟩ = some (.slice (some ad133) l0_1.length c0_1) := (blk_cell BK131.out 1).trans rfl
                 have hfz36_0 := blk_frozen BK131.out 0
                 have hfz36_1 := blk_frozen BK131.out 1
                 have p136 : 0 ≤ (x5_4 : Int) := oda
                 have q136 : x5_4 < (l0_1.length : Int) := oda
                 obtain ⟨ad136, e136, hx136_0, hx136_1, hx136_2⟩ := at_T56 HR0_1.out x5_4 p136 q136
                 obtain rfl : ad133 = ad136 := (by injection e136)
                 try replace hx136_0 := bct HB.out hx136_0
                 try replace hx136_1 := bct HB.out hx136_1
                 try replace hx136_2 := bct HB.out hx136_2
                 replace p136 := eq_true p136
                 replace q136 := eq_true q136
                 have hcz37_0 : wr.cell? ⟨gb134, 0, none⟩ = some (.int .i64 ((rd_T56 l0_1 x3_2).f0)) := (blk_cell BK134.out 0).trans rfl
                 have hcz37_1 : wr.cell? ⟨gb134, 1, none⟩ = some (.int .i64 ((rd_T56 l0_1 x3_2).f1)) := (blk_cell BK134.out 1).trans rfl
                 have hcz37_2 : wr.cell? ⟨gb134, 2, none⟩ = some (.int .i64 ((rd_T56 l0_1 x3_2).f2)) := (blk_cell BK134.out 2).trans rfl
                 have hfz37_0 := blk_frozen BK134.out 0
                 have hfz37_1 := blk_frozen BK134.out 1
                 have hfz37_2 := blk_frozen BK134.out 2
                 go_wp2
                 repeat (go_quiet (fail); try go_wp2)
                 go_roundg k4
                 case measure => have := HJ1.out; have := HK2.out; have := HJ10.out; have := HK4.out; omega
                 case rel => exact ⟨(wrap64 (x5_4 + 1)), rsd, H', ⟨by have := HJ1.out; have := HK2.out; have := HJ10.out; have := HK4.out; omega⟩, ⟨bvK BK131.out⟩, ⟨bvK BK134.out⟩, ⟨by repeat (first | (with_reducible first | exact HB.out | apply bwA | apply bwN | apply bwD | refine below_set ?_ GE131.out | refine below_set ?_ GE134.out) | exact HB.out)⟩⟩
               ·rw [if_neg c30] at H
                exact absurd H (by simp)
              ·rw [if_neg c29] at H
               exact absurd H (by simp)
             ·rw [if_neg c28] at H
              have c28b0 : decide (x5_4 < x3_2) = false := decide_eq_false c28
              clear c28
              have H' := Aside0.mk H
              clear H
              go_wp2
              repeat (go_quiet (fail); try go_wp2)
              go_roundg k4
              case measure => have := HJ1.out; have := HK2.out; have := HJ10.out; have := HK4.out; omega
              case rel => exact ⟨(wrap64 (x3_2 + 1)), rsd, H', ⟨by have := HJ1.out; have := HK2.out; have := HJ10.out; have := HK4.out; omega⟩, ⟨bvK BK131.out⟩, ⟨by repeat (first | (with_reducible first | exact HB.out | apply bwA | apply bwN | apply bwD | refine below_set ?_ GE131.out | refine below_set ?_ GE134.out) | exact HB.out)⟩⟩
       ·rw [if_neg c10] at H
        exact absurd H (by simp)
      ·rw [if_neg c9] at H
       have c9b0 : decide (x3_2 < (l0_1.length : Int)) = false := decide_eq_false c9
       clear c9
       obtain rfl := Option.some.inj H
       have hcz38_0 : wr.cell? ⟨gb131, 0, none⟩ = some (.int .i64 a0_0) := (blk_cell BK131.out 0).trans rfl
       have hcz38_1 : wr.cell? ⟨gb131, 1, none⟩ = some (.slice A0_1 l0_1.length c0_1) := (blk_cell BK131.out 1).trans rfl
       have hfz38_0 := blk_frozen BK131.out 0
       have hfz38_1 := blk_frozen BK131.out 1
       go_wp2
       repeat (go_quiet (fail); try go_wp2)
       go_ret
       exact ⟨ers, by repeat (first | (with_reducible first | exact HB.out | apply bwA | apply bwN | apply bwD | refine below_set ?_ GE131.out) | exact HB.out)⟩

/-! ### spec_l8Place: function 89 -/
def spec_l8Place.f (a0_0 : Int) (l0_1 : List (S56)) (a1 : Int) : Option (Bool) := (spec_l1In.f a1 0 (wrap64 ((l0_1.length : Int) + 1))).bind fun t138 => (some t138)
set_option maxHeartbeats 8000000 in
set_option maxRecDepth 100000 in
theorem spec_l8Place.calls (a0_0 : Int) (A0_1 : Option Addr) (c0_1 : Nat) (l0_1 : List (S56)) (a1 : Int) (r : Bool) (w : World) (hr0_1 : Kd.C k56 w A0_1 l0_1.length l0_1) (hc0_1 : l0_1.length ≤ c0_1) (h : spec_l8Place.f a0_0 l0_1 a1 = some r) :
  Calls Try.prog 89 #[.agg #[.int .i64 a0_0, .slice A0_1 l0_1.length c0_1], .int .i64 a1] w fun e w' => e = .returned (.bool r) ∧ Below w.heap.size w w' := by
 have hu48 := Try.underlying48
 have HR0_1 := Aside0.mk hr0_1
 have HC0_1 := Aside0.mk hc0_1
 clear hr0_1 hc0_1
 have HB := Aside0.mk (Below.refl w.heap.size w)
 have H : ((spec_l1In.f a1 0 (wrap64 ((l0_1.length : Int) + 1))).bind fun t138 => (some t138)) = some r := h
 clear h
 replace H := Option.bind_eq_some_iff.mp H
 obtain ⟨t138, A30, H⟩ := H
 replace H : (some t138) = some r := H
 have A3 := Aside0.mk A30
 clear A30
 obtain rfl := Option.some.inj H
 go_enter Try.func89, Try.ntmps89
 go_wp2_with (first | ((with_reducible refine gate_dst (N := 2) rfl ?_); refine box_event ?hg (N := 2) ?hd (cs := #[.int .i64 a0_0, .slice A0_1 l0_1.length c0_1]) (t := 48) ?hr ?_; (case hd => rfl); (case hg => rfl); (case hr => first | (go_simp; done) | (go_simp; rfl)); intro gb137 hg w4 hbox hb; have n0_ := Aside0.mk (below_step (by repeat (first | (with_reducible first | exact HB.out | apply bwA | apply bwN | apply bwD) | exact HB.out)) hb); have n1_ := Aside0.mk (hbox); have n2_ := Aside0.mk ((by rw [hg]; exact (below_size (by repeat (first | (with_reducible first | exact HB.out | apply bwA | apply bwN | apply bwD) | exact HB.out))) : w.heap.size ≤ gb137)); have n3_ := Aside0.mk ((by rw [hg]; exact (below_size (by repeat (first | (with_reducible first | exact HB.out | apply bwA | apply bwN | apply bwD) | exact HB.out))) : w.heap.size ≤ gb137)); clear HB; have HB := n0_; have BK137 := n1_; have GW137 := n2_; have GE137 := n3_; clear n0_ n1_ n2_ n3_; clear hb hbox hg; have hcz5_0 : w4.cell? ⟨gb137, 0, none⟩ = some (.int .i64 a0_0) := (blk_cell BK137.out 0).trans rfl; have hcz5_1 : w4.cell? ⟨gb137, 1, none⟩ = some (.slice A0_1 l0_1.length c0_1) := (blk_cell BK137.out 1).trans rfl; have hfz5_0 := blk_frozen BK137.out 0; have hfz5_1 := blk_frozen BK137.out 1) | ((with_reducible refine gate_callee (f := 74) rfl ?_); refine goesL_ (some 10) rfl rfl Try.func74 (by kernel_rfl) rfl #[.int .i64 a1, .int .i64 0, .int .i64 (wrap64 ((l0_1.length : Int) + 1))] rfl lmB ?_; (with_reducible refine (spec_l1In.calls a1 0 (wrap64 ((l0_1.length : Int) + 1)) t138 _ A3.out).mono ?_); rintro e w' ⟨rfl, ⟨nd, rfl⟩⟩; refine ⟨_, rfl, ?_⟩))
 go_ret
 exact ⟨ers, by repeat (first | (with_reducible first | exact HB.out | apply bwA | apply bwN | apply bwD | refine below_set ?_ GE137.out) | exact HB.out)⟩

/-! ### spec_l8Add: function 130 -/
def spec_l8Add.f (a0_0 : Int) (l0_1 : List S56) (v lo hi : Int) : Option (Int × List S56 × Int) :=
 if lo < 0 ∨ hi < 0 then some (a0_0, l0_1, -1) else if lo = hi then some (a0_0, l0_1, lo) else if l0_1.length ≤ 1000000000000 then
  match l0_1.findIdx? (fun y => decide (y = ⟨v, lo, hi⟩)) with
  | some i => some (a0_0, l0_1, (i : Int) + 2)
  | none => if 2000 ≤ l0_1.length then some (a0_0, l0_1, -1) else some (a0_0, l0_1 ++ [⟨v, lo, hi⟩], (l0_1.length : Int) + 2)
 else none
theorem spec_l8Add.find_at {l : List S56} {x : S56} {i : Nat} (hi : i < l.length) (h : l[i] = x) (hn : ∀ q (hq : q < l.length), q < i → l[q] ≠ x) : l.findIdx? (fun y => decide (y = x)) = some i := by
 rw [List.findIdx?_eq_some_iff_getElem]
 exact ⟨hi, decide_eq_true h, fun j hj => by simpa using hn j (by omega) hj⟩
theorem spec_l8Add.find_no {l : List S56} {x : S56} (hn : ∀ q (hq : q < l.length), l[q] ≠ x) : l.findIdx? (fun y => decide (y = x)) = none := by
 rw [List.findIdx?_eq_none_iff]
 intro y hy
 obtain ⟨q, hq, rfl⟩ := List.mem_iff_getElem.1 hy
 simpa using hn q hq
theorem k56_E : k56.E = [] := rfl
set_option maxHeartbeats 8000000 in
set_option maxRecDepth 100000 in
theorem spec_l8Add.strong (a0_0 : Int) (ok : Nat → Prop) (u : Value) (l : List S56) (v lo hi r1 : Int) (r2 : List S56) (r3 : Int) (w0 w : World) (hB : Below w0.heap.size w0 w) (ho : Kd.R k56 56 w w0.heap.size ok u l) (hf : ∀ k, w.heap.size ≤ k → ok k) (h : spec_l8Add.f a0_0 l v lo hi = some (r1, r2, r3)) :
  Calls Try.prog 130 #[.agg #[.int .i64 a0_0, u], .int .i64 v, .int .i64 lo, .int .i64 hi] w fun e w' => ∃ v1 : Value, e = .returned (.tuple #[.agg #[.int .i64 r1, v1], .int .i64 r3]) ∧ Kd.R k56 56 w' w0.heap.size ok v1 r2 ∧ Below w0.heap.size w0 w' ∧ Kept w w' (fun k_ => u.ownBlock = some k_) ∧ Ap.Stays k56 56 w0.heap.size w u l w' v1 r2 := by
 have hu25 := Try.underlying48
 have hu71 := Try.underlying56
 obtain ⟨A, c, rfl⟩ := Kd.R_slice ho
 have HR := Aside0.mk ho
 have HB := Aside0.mk hB
 have HF := Aside0.mk hf
 unfold spec_l8Add.f at h
 clear ho hB hf
 by_cases c1 : lo < 0 ∨ hi < 0
 ·rw [if_pos c1] at h
  simp only [Option.some.injEq, Prod.mk.injEq] at h
  obtain ⟨rfl, rfl, rfl⟩ := h
  have key : (decide (lo < 0) = true ∧ True) ∨ (decide (lo < 0) = false ∧ decide (hi < 0) = true) := by
   by_cases c2 : lo < 0
   ·exact .inl ⟨decide_eq_true c2, trivial⟩
   ·exact .inr ⟨decide_eq_false c2, decide_eq_true (by omega)⟩
  clear c1
  rcases key with ⟨e1, e2⟩ | ⟨e1, e2⟩
  all_goals
   go_enter Try.func130, Try.ntmps130
   go_wp2_with (first | ((with_reducible refine gate_dst (N := 4) rfl ?_); refine box_event ?hg (N := 4) ?hd (cs := #[.int .i64 a0_0, .slice A l.length c]) (t := 48) ?hr ?_; (case hd => rfl); (case hg => rfl); (case hr => first | (go_simp; done) | (go_simp; rfl)); intro g0 hg0 w1 hbox hb; have BD1 := Aside0.mk hbox; have HB1 := Aside0.mk hb; have GD := Aside0.mk (show w.heap.size ≤ g0 from Nat.le_of_eq hg0.symm); clear hg0 hbox hb) | ((with_reducible refine gate_dst (N := 8) rfl ?_); refine box_event ?hg (N := 8) ?hd (cs := #[.int .i64 0, .slice none 0 0]) (t := 48) ?hr ?_; (case hd => rfl); (case hg => rfl); (case hr => first | (go_simp; done) | (go_simp; rfl)); intro gr hgr w2 hbox hb; have GR := Aside0.mk (show w.heap.size ≤ gr by rw [hgr]; exact HB1.out.size); have BR2 := Aside0.mk hbox; have GRD := Aside0.mk (show gr ≠ g0 from fun e_ => by have := blk_lt BD1.out; omega); have BD2 := Aside0.mk (blk_below BD1.out hb); have HB2 := Aside0.mk (below_step HB1.out hb); have d20 : w2.cell? ⟨g0, 0, none⟩ = some (.int .i64 a0_0) := (blk_cell BD2.out 0).trans rfl; have d21 : w2.cell? ⟨g0, 1, none⟩ = some (.slice A l.length c) := (blk_cell BD2.out 1).trans rfl; have r20 : w2.cell? ⟨gr, 0, none⟩ = some (.int .i64 0) := (blk_cell BR2.out 0).trans rfl; have r21 : w2.cell? ⟨gr, 1, none⟩ = some (.slice none 0 0) := (blk_cell BR2.out 1).trans rfl; have q20 := blk_frozen BR2.out 0; have q21 := blk_frozen BR2.out 1; clear hgr hbox hb))
   have HE := below_set (below_set HB2.out GR.out (j := 0) (v := .int .i64 a0_0)) GR.out (j := 1) (v := .slice A l.length c)
   refine bodyPost_ret (results_ct rfl _ _ gr 48 #[.int .i64 a0_0, .slice A l.length c] (0, 0) _ rfl (blk_put (blk_put BR2.out 0 _ rfl) 1 _ rfl) Try.underlying48 rfl (by kernel_rfl)) rfl ?_
   exact ⟨_, rfl, Kd.R_below HR.out HE, below_then HB.out HB.out.size HE, Kept.of_below HE _, Ap.Stays.refl HE⟩
 rw [if_neg c1] at h
 have e1 : decide (lo < 0) = false := decide_eq_false (by omega)
 have e2 : decide (hi < 0) = false := decide_eq_false (by omega)
 clear c1
 by_cases c2 : lo = hi
 ·rw [if_pos c2] at h
  simp only [Option.some.injEq, Prod.mk.injEq] at h
  obtain ⟨rfl, rfl, rfl⟩ := h
  have e3 : (lo == hi) = true := beq_iff_eq.mpr c2
  clear c2
  go_enter Try.func130, Try.ntmps130
  go_wp2_with (first | ((with_reducible refine gate_dst (N := 4) rfl ?_); refine box_event ?hg (N := 4) ?hd (cs := #[.int .i64 a0_0, .slice A l.length c]) (t := 48) ?hr ?_; (case hd => rfl); (case hg => rfl); (case hr => first | (go_simp; done) | (go_simp; rfl)); intro g0 hg0 w1 hbox hb; have BD1 := Aside0.mk hbox; have HB1 := Aside0.mk hb; have GD := Aside0.mk (show w.heap.size ≤ g0 from Nat.le_of_eq hg0.symm); clear hg0 hbox hb) | ((with_reducible refine gate_dst (N := 8) rfl ?_); refine box_event ?hg (N := 8) ?hd (cs := #[.int .i64 0, .slice none 0 0]) (t := 48) ?hr ?_; (case hd => rfl); (case hg => rfl); (case hr => first | (go_simp; done) | (go_simp; rfl)); intro gr hgr w2 hbox hb; have GR := Aside0.mk (show w.heap.size ≤ gr by rw [hgr]; exact HB1.out.size); have BR2 := Aside0.mk hbox; have GRD := Aside0.mk (show gr ≠ g0 from fun e_ => by have := blk_lt BD1.out; omega); have BD2 := Aside0.mk (blk_below BD1.out hb); have HB2 := Aside0.mk (below_step HB1.out hb); have d20 : w2.cell? ⟨g0, 0, none⟩ = some (.int .i64 a0_0) := (blk_cell BD2.out 0).trans rfl; have d21 : w2.cell? ⟨g0, 1, none⟩ = some (.slice A l.length c) := (blk_cell BD2.out 1).trans rfl; have r20 : w2.cell? ⟨gr, 0, none⟩ = some (.int .i64 0) := (blk_cell BR2.out 0).trans rfl; have r21 : w2.cell? ⟨gr, 1, none⟩ = some (.slice none 0 0) := (blk_cell BR2.out 1).trans rfl; have q20 := blk_frozen BR2.out 0; have q21 := blk_frozen BR2.out 1; clear hgr hbox hb))
  have HE := below_set (below_set HB2.out GR.out (j := 0) (v := .int .i64 a0_0)) GR.out (j := 1) (v := .slice A l.length c)
  refine bodyPost_ret (results_ct rfl _ _ gr 48 #[.int .i64 a0_0, .slice A l.length c] (0, 0) _ rfl (blk_put (blk_put BR2.out 0 _ rfl) 1 _ rfl) Try.underlying48 rfl (by kernel_rfl)) rfl ?_
  exact ⟨_, rfl, Kd.R_below HR.out HE, below_then HB.out HB.out.size HE, Kept.of_below HE _, Ap.Stays.refl HE⟩
 rw [if_neg c2] at h
 have e3 : (lo == hi) = false := beq_eq_false_iff_ne.mpr c2
 clear c2
 by_cases c3 : l.length ≤ 1000000000000
 ·rw [if_pos c3] at h
  have C3 := Aside0.mk c3
  have H := Aside0.mk h
  clear c3 h
  go_enter Try.func130, Try.ntmps130
  go_wp2_with (first | ((with_reducible refine gate_dst (N := 4) rfl ?_); refine box_event ?hg (N := 4) ?hd (cs := #[.int .i64 a0_0, .slice A l.length c]) (t := 48) ?hr ?_; (case hd => rfl); (case hg => rfl); (case hr => first | (go_simp; done) | (go_simp; rfl)); intro g0 hg0 w1 hbox hb; have BD1 := Aside0.mk hbox; have HB1 := Aside0.mk hb; have GD := Aside0.mk (show w.heap.size ≤ g0 from Nat.le_of_eq hg0.symm); clear hg0 hbox hb) | ((with_reducible refine gate_dst (N := 8) rfl ?_); refine box_event ?hg (N := 8) ?hd (cs := #[.int .i64 0, .slice none 0 0]) (t := 48) ?hr ?_; (case hd => rfl); (case hg => rfl); (case hr => first | (go_simp; done) | (go_simp; rfl)); intro gr hgr w2 hbox hb; have GR := Aside0.mk (show w.heap.size ≤ gr by rw [hgr]; exact HB1.out.size); have BR2 := Aside0.mk hbox; have GRD := Aside0.mk (show gr ≠ g0 from fun e_ => by have := blk_lt BD1.out; omega); have BD2 := Aside0.mk (blk_below BD1.out hb); have HB2 := Aside0.mk (below_step HB1.out hb); have d20 : w2.cell? ⟨g0, 0, none⟩ = some (.int .i64 a0_0) := (blk_cell BD2.out 0).trans rfl; have d21 : w2.cell? ⟨g0, 1, none⟩ = some (.slice A l.length c) := (blk_cell BD2.out 1).trans rfl; have r20 : w2.cell? ⟨gr, 0, none⟩ = some (.int .i64 0) := (blk_cell BR2.out 0).trans rfl; have r21 : w2.cell? ⟨gr, 1, none⟩ = some (.slice none 0 0) := (blk_cell BR2.out 1).trans rfl; have q20 := blk_frozen BR2.out 0; have q21 := blk_frozen BR2.out 1; clear hgr hbox hb) | ((with_reducible refine gate_dst (N := 10) rfl ?_); refine box_event ?hg (N := 10) ?hd (cs := #[.int .i64 0, .int .i64 0, .int .i64 0]) (t := 56) ?hr ?_; (case hd => rfl); (case hg => rfl); (case hr => first | (go_simp; done) | (go_simp; rfl)); intro gb hgb w3 hbox hb; have BX3 := Aside0.mk hbox; have BD3 := Aside0.mk (blk_below BD2.out hb); have BR3 := Aside0.mk (blk_below BR2.out hb); have HB3 := Aside0.mk (below_step HB2.out hb); have GB := Aside0.mk (And.intro (show w.heap.size ≤ gb by rw [hgb]; exact HB2.out.size) (And.intro (show gr ≠ gb from fun e_ => by have := blk_lt BR2.out; omega) (show g0 ≠ gb from fun e_ => by have := blk_lt BD2.out; omega))); have z30 : w3.cell? ⟨gb, 0, none⟩ = some (.int .i64 0) := (blk_cell BX3.out 0).trans rfl; have z31 : w3.cell? ⟨gb, 1, none⟩ = some (.int .i64 0) := (blk_cell BX3.out 1).trans rfl; have z32 : w3.cell? ⟨gb, 2, none⟩ = some (.int .i64 0) := (blk_cell BX3.out 2).trans rfl; have y30 := blk_frozen BX3.out 0; have y31 := blk_frozen BX3.out 1; have y32 := blk_frozen BX3.out 2; clear hgb hbox hb))
  have n0 := Aside0.mk (below_set (below_set (below_set HB3.out GB.out.1 (j := 0) (v := .int .i64 v)) GB.out.1 (j := 1) (v := .int .i64 lo)) GB.out.1 (j := 2) (v := .int .i64 hi))
  have n1 := Aside0.mk (blk_put (blk_put (blk_put BX3.out 0 (.int .i64 v) rfl) 1 (.int .i64 lo) rfl) 2 (.int .i64 hi) rfl)
  have n2 := Aside0.mk (blk_far (p := ⟨gb, 2, none⟩) (blk_far (p := ⟨gb, 1, none⟩) (blk_far (p := ⟨gb, 0, none⟩) BD3.out GB.out.2.2 (.int .i64 v)) GB.out.2.2 (.int .i64 lo)) GB.out.2.2 (.int .i64 hi))
  have n3 := Aside0.mk (blk_far (p := ⟨gb, 2, none⟩) (blk_far (p := ⟨gb, 1, none⟩) (blk_far (p := ⟨gb, 0, none⟩) BR3.out GB.out.2.1 (.int .i64 v)) GB.out.2.1 (.int .i64 lo)) GB.out.2.1 (.int .i64 hi))
  generalize (((w3.setCell ⟨gb, 0, none⟩ (.int .i64 v)).setCell ⟨gb, 1, none⟩ (.int .i64 lo)).setCell ⟨gb, 2, none⟩ (.int .i64 hi)) = w4 at n0 n1 n2 n3 ⊢
  clear z30 z31 z32 y30 y31 y32 BX3 BD3 BR3 HB3
  go_loopg [11] l.length (fun gg s11 wr => ∃ (i : Nat), s11 = .int .i64 (i : Int) ∧ Aside0 (i + gg = l.length) ∧ Aside0 (∀ q (hq : q < l.length), q < i → l[q] ≠ ⟨v, lo, hi⟩) ∧ Aside0 (Below w.heap.size w wr) ∧ Aside0 (wr.heap[gb]? = some (.cells #[.int .i64 v, .int .i64 lo, .int .i64 hi] 56 (0, 0))) ∧ Aside0 (wr.heap[g0]? = some (.cells #[.int .i64 a0_0, .slice A l.length c] 48 (0, 0))) ∧ Aside0 (wr.heap[gr]? = some (.cells #[.int .i64 0, .slice none 0 0] 48 (0, 0))))
  case atStart => exact ⟨0, rfl, ⟨by omega⟩, ⟨fun q hq h0 => absurd h0 (by omega)⟩, n0, n1, n2, n3⟩
  case round =>
   clear n0 n1 n2 n3
   obtain ⟨i, rfl, HI, HN, HB5, BX5, BD5, BR5⟩ := hrel
   have d51 : wr.cell? ⟨g0, 1, none⟩ = some (.slice A l.length c) := (blk_cell BD5.out 1).trans rfl
   by_cases c4 : i < l.length
   ·obtain ⟨k1, rfl⟩ : ∃ k1, gk = k1 + 1 := ⟨gk - 1, by have := HI.out; omega⟩
    have c4a : (i : Int) < (l.length : Int) := by omega
    have c4b : decide ((i : Int) < (l.length : Int)) = true := decide_eq_true c4a
    have c4c : (0 : Int) ≤ (i : Int) := by omega
    have c4d : decide ((0 : Int) ≤ (i : Int)) = true := decide_eq_true c4c
    have HR5 := Aside0.mk (Kd.R_below HR.out HB5.out)
    go_wp2
    obtain ⟨ad, rfl, hx0, hx1, hx2⟩ := at_T56 (Kd.R_reads' (Kd.R_drew HR5.out)).2.2 (i : Int) c4c c4a
    have hget : rd_T56 l (i : Int) = l[i] := by unfold rd_T56; rw [List.getD_eq_getElem?_getD, Int.toNat_natCast, List.getElem?_eq_getElem c4]; rfl
    simp only [Int.toNat_natCast, hget] at hx0 hx1 hx2
    refine start_ (n := 7) (S := fun w' => w'.cell? ⟨g0, 1, none⟩ = some (.slice (some ad) l.length c) ∧ w'.cell? ⟨gb, 0, none⟩ = some (.int .i64 v) ∧ w'.cell? ⟨gb, 1, none⟩ = some (.int .i64 lo) ∧ w'.cell? ⟨gb, 2, none⟩ = some (.int .i64 hi) ∧ w'.cell? (ad.add (i * 3)) = some (.int .i64 l[i].f0) ∧ w'.cell? ⟨(ad.add (i * 3)).block, (ad.add (i * 3)).off + 1, none⟩ = some (.int .i64 l[i].f1) ∧ w'.cell? ⟨(ad.add (i * 3)).block, (ad.add (i * 3)).off + 2, none⟩ = some (.int .i64 l[i].f2)) (ds := []) (Pt.bm 7 0) (by kernel_rfl) rfl rfl ⟨(blk_cell BD5.out 1).trans rfl, (blk_cell BX5.out 0).trans rfl, (blk_cell BX5.out 1).trans rfl, (blk_cell BX5.out 2).trans rfl, hx0, hx1, hx2⟩ (fun hHeld => ?_)
    have HB6 := Aside0.mk (below_step HB5.out (below_drew (Below.refl _ _)))
    have BX6 := Aside0.mk (blk_drew BX5.out)
    have BD6 := Aside0.mk (blk_drew BD5.out)
    have BR6 := Aside0.mk (blk_drew BR5.out)
    clear d51 hx0 hx1 hx2 HB5 BX5 BD5 BR5 HR5
    generalize wr.drew = w6 at HB6 BX6 BD6 BR6 hHeld ⊢
    refine Pt.pu 0 (some 35) (Pt.bm 7 1) (by kernel_rfl) ?_
    refine Pt.tk 1 (some 36) (Pt.bm 7 3) rfl rfl (by kernel_rfl) hHeld (Or.inl ⟨by rfl, by rintro w' ⟨s0, s1, s2, s3, s4, s5, s6⟩; go_simp; with_reducible rfl⟩) ?_
    refine Pt.pu 2 (some 37) (Pt.bm 7 7) (by kernel_rfl) ?_
    refine Pt.pu 3 (some 38) (Pt.bm 7 15) (by kernel_rfl) ?_
    refine Pt.tk 4 (some 39) (Pt.bm 7 31) rfl rfl (by kernel_rfl) hHeld (Or.inl ⟨by rfl, by rintro w' ⟨s0, s1, s2, s3, s4, s5, s6⟩; go_simp; with_reducible rfl⟩) ?_
    refine Pt.tk 5 (some 40) (Pt.bm 7 63) rfl rfl (by kernel_rfl) hHeld (Or.inl ⟨by rfl, by rintro w' ⟨s0, s1, s2, s3, s4, s5, s6⟩; go_simp; with_reducible rfl⟩) ?_
    by_cases c5 : l[i] = ⟨v, lo, hi⟩
    ·have H2 := H.out
     rw [spec_l8Add.find_at c4 c5 HN.out] at H2
     refine Pt.pu 6 (some 41) (v := .bool true) (Pt.bm 7 127) (by kernel_rfl) ?_ (hy := Or.inl ⟨by rfl, by
      intro w'
      go_simp
      try simp [c5]⟩)
     refine done_ (by kernel_rfl) ?_
     clear hHeld
     have d60 : w6.cell? ⟨g0, 0, none⟩ = some (.int .i64 a0_0) := (blk_cell BD6.out 0).trans rfl
     have d61 : w6.cell? ⟨g0, 1, none⟩ = some (.slice (some ad) l.length c) := (blk_cell BD6.out 1).trans rfl
     simp only [Option.some.injEq, Prod.mk.injEq] at H2
     obtain ⟨rfl, rfl, rfl⟩ := H2
     have hw1 : wrap64 ((i : Int) + 2) = (i : Int) + 2 := by have := C3.out; unfold wrap64; omega
     have hw1' : (IntKind.i64.wrap ((i : Int) + 2)) = (i : Int) + 2 := (i64_w _).trans hw1
     have r60 : w6.cell? ⟨gr, 0, none⟩ = some (.int .i64 0) := (blk_cell BR6.out 0).trans rfl
     have r61 : w6.cell? ⟨gr, 1, none⟩ = some (.slice none 0 0) := (blk_cell BR6.out 1).trans rfl
     have q60 := blk_frozen BR6.out 0
     have q61 := blk_frozen BR6.out 1
     clear c5
     go_wp2
     have HE := below_set (below_set HB6.out GR.out (j := 0) (v := .int .i64 a0_0)) GR.out (j := 1) (v := .slice (some ad) l.length c)
     refine bodyPost_ret (results_ct rfl _ _ gr 48 #[.int .i64 a0_0, .slice (some ad) l.length c] (0, 0) _ rfl (blk_put (blk_put BR6.out 0 _ rfl) 1 _ rfl) Try.underlying48 rfl (by kernel_rfl)) rfl ?_
     exact ⟨_, rfl, Kd.R_below HR.out HE, below_then HB.out HB.out.size HE, Kept.of_below HE _, Ap.Stays.refl HE⟩
    ·skip
     refine Pt.pu 6 (some 41) (v := .bool false) (Pt.bm 7 127) (by kernel_rfl) ?_ (hy := Or.inl ⟨by rfl, by
      intro w'
      go_simp
      revert c5
      generalize l[i] = x
      obtain ⟨x0, x1, x2⟩ := x
      intro c5
      by_cases q0 : x0 = v <;> by_cases q1 : x1 = lo <;> by_cases q2 : x2 = hi <;> simp_all⟩)
     refine done_ (by kernel_rfl) ?_
     clear hHeld
     have d60 : w6.cell? ⟨g0, 0, none⟩ = some (.int .i64 a0_0) := (blk_cell BD6.out 0).trans rfl
     have d61 : w6.cell? ⟨g0, 1, none⟩ = some (.slice (some ad) l.length c) := (blk_cell BD6.out 1).trans rfl
     have hw1 : wrap64 ((i : Int) + 1) = (i : Int) + 1 := by have := C3.out; unfold wrap64; omega
     have hw1' : (IntKind.i64.wrap ((i : Int) + 1)) = (i : Int) + 1 := (i64_w _).trans hw1
     have C5 := Aside0.mk c5
     clear c5
     go_wp2
     go_roundg k1
     case measure => exact Nat.lt_succ_self _
     case rel => exact ⟨i + 1, by first | rfl | (simp only [Int.natCast_add]; rfl) | simp [hw1, hw1'], ⟨by have := HI.out; omega⟩, ⟨fun q hq hqi => by
      by_cases e_ : q = i
      ·subst e_
       exact C5.out
      ·exact HN.out q hq (by omega)⟩, HB6, BX6, BD6, BR6⟩
   ·have hi : i = l.length := by have := HI.out; omega
    subst hi
    have hfn := spec_l8Add.find_no (fun q hq => HN.out q hq hq)
    have H2 := H.out
    rw [hfn] at H2
    have c4b : decide ((l.length : Int) < (l.length : Int)) = false := decide_eq_false (by omega)
    by_cases c6 : 2000 ≤ l.length
    ·simp only [if_pos c6, Option.some.injEq, Prod.mk.injEq] at H2
     obtain ⟨rfl, rfl, rfl⟩ := H2
     have c6b : decide (2000 ≤ (l.length : Int)) = true := decide_eq_true (by omega)
     have d50 : wr.cell? ⟨g0, 0, none⟩ = some (.int .i64 a0_0) := (blk_cell BD5.out 0).trans rfl
     have r50 : wr.cell? ⟨gr, 0, none⟩ = some (.int .i64 0) := (blk_cell BR5.out 0).trans rfl
     have r51 : wr.cell? ⟨gr, 1, none⟩ = some (.slice none 0 0) := (blk_cell BR5.out 1).trans rfl
     have q50 := blk_frozen BR5.out 0
     have q51 := blk_frozen BR5.out 1
     clear c6
     go_wp2
     have HE := below_set (below_set HB5.out GR.out (j := 0) (v := .int .i64 a0_0)) GR.out (j := 1) (v := .slice A l.length c)
     refine bodyPost_ret (results_ct rfl _ _ gr 48 #[.int .i64 a0_0, .slice A l.length c] (0, 0) _ rfl (blk_put (blk_put BR5.out 0 _ rfl) 1 _ rfl) Try.underlying48 rfl (by kernel_rfl)) rfl ?_
     exact ⟨_, rfl, Kd.R_below HR.out HE, below_then HB.out HB.out.size HE, Kept.of_below HE _, Ap.Stays.refl HE⟩
    ·simp only [if_neg c6, Option.some.injEq, Prod.mk.injEq] at H2
     obtain ⟨rfl, rfl, rfl⟩ := H2
     have c6b : decide (2000 ≤ (l.length : Int)) = false := decide_eq_false (by omega)
     have C6 := Aside0.mk c6
     have HR5 := Aside0.mk (Kd.R_below HR.out HB5.out)
     have x50 : wr.cell? ⟨gb, 0, none⟩ = some (.int .i64 v) := (blk_cell BX5.out 0).trans rfl
     have x51 : wr.cell? ⟨gb, 1, none⟩ = some (.int .i64 lo) := (blk_cell BX5.out 1).trans rfl
     have x52 : wr.cell? ⟨gb, 2, none⟩ = some (.int .i64 hi) := (blk_cell BX5.out 2).trans rfl
     have d50 : wr.cell? ⟨g0, 0, none⟩ = some (.int .i64 a0_0) := (blk_cell BD5.out 0).trans rfl
     have qd1 := blk_frozen BD5.out 1
     clear c6
     obtain ⟨y, hy⟩ : ∃ y, y = l ++ [(⟨v, lo, hi⟩ : S56)] := ⟨_, rfl⟩
     have hyl : y.length = l.length + 1 := by rw [hy]; simp
     have HY := Aside0.mk hy
     have HYL := Aside0.mk hyl
     clear hy hyl
     go_wp2_with ((with_reducible refine gate_builtin (b := .append) (xs := #[.tmp 51, .tmp 53]) rfl ?_); at_builtin; refine Ap.R_append k56 k56_E (w0 := w0) w0.heap.size rfl (.tmp 51) (.tmp 53) 46 56 (.agg #[(.int .i64 0), (.int .i64 0), (.int .i64 0)]) 24 rfl Try.underlying46 info56 rfl (by decide) (by omega) (.slice A l.length c) l (⟨v, lo, hi⟩ : S56) [.int .i64 v, .int .i64 lo, .int .i64 hi] ok rfl rfl (k56_mkM _ _ _ (⟨v, lo, hi⟩ : S56)) (fun k hk => HF.out k (Nat.le_trans HB5.out.size hk)) HR5.out (below_then HB.out HB.out.size HB5.out) (Nat.le_trans HB.out.size HB5.out.size) (by have := C6.out; omega) ?_; intro v1 w7 ho7 hb7 hg7 _ hs7; obtain ⟨A7, c7, e7⟩ := Kd.R_slice ho7; subst e7; rw [← HY.out] at ho7 hs7 ⊢; have NE7 := Aside0.mk (Kd.R_ne HR5.out BD5.out (by decide)); have NR7 := Aside0.mk (Kd.R_ne HR5.out BR5.out (by decide)); have BD7 := Aside0.mk (blk_grown BD5.out hg7 NE7.out); have BR7 := Aside0.mk (blk_grown BR5.out hg7 NR7.out); have HO7 := Aside0.mk ho7; have HB7 := Aside0.mk hb7; have HK7 := Aside0.mk (Kept.of_grown hg7 (Kept.of_below HB5.out (fun k_ => (Value.slice A l.length c).ownBlock = some k_)) (fun k hk => .inl hk)); have HS7 := Aside0.mk (hs7.from_ HB5.out); have GS7 := Aside0.mk (Nat.le_trans HB5.out.size hg7.size); have d70 : w7.cell? ⟨g0, 0, none⟩ = some (.int .i64 a0_0) := (blk_cell BD7.out 0).trans rfl; have d71 : w7.cell? ⟨g0, 1, none⟩ = some (.slice A l.length c) := (blk_cell BD7.out 1).trans rfl; have qd7 := blk_frozen BD7.out 1; clear ho7 hb7 hg7 hs7)
     have hlw : wrap64 ((y.length : Int) + 1) = (l.length : Int) + 2 := by have := C6.out; have := HYL.out; unfold wrap64; omega
     have hlw' : (IntKind.i64.wrap ((y.length : Int) + 1)) = (l.length : Int) + 2 := (i64_w _).trans hlw
     have n0 := Aside0.mk (blk_put (cs' := #[.int .i64 a0_0, .slice A7 y.length c7]) BD7.out 1 (.slice A7 y.length c7) rfl)
     have n1 := Aside0.mk (blk_far (p := ⟨g0, 1, none⟩) BR7.out (GRD.out) (.slice A7 y.length c7))
     have n2 := Aside0.mk (Kd.R_set HO7.out BD7.out (by decide) 1 (.slice A7 y.length c7))
     have n3 := Aside0.mk (HB7.out.setCell (p := ⟨g0, 1, none⟩) (Nat.le_trans HB.out.size GD.out) (.slice A7 y.length c7))
     have n4 := Aside0.mk (HK7.out.setCell (p := ⟨g0, 1, none⟩) (.inr GD.out) (.slice A7 y.length c7))
     have n5 : Aside0 (Ap.Stays k56 56 w0.heap.size w (.slice A l.length c) l (w7.setCell ⟨g0, 1, none⟩ (.slice A7 y.length c7)) (.slice A7 y.length c7) y) := ⟨fun ok0 u0 xs0 h0 hp => by
      obtain ⟨q1, q2⟩ := HS7.out ok0 u0 xs0 h0 hp
      exact ⟨Kd.R_set q1 BD7.out (by decide) 1 _, q2⟩⟩
     clear d70 d71 qd7 BD7 BR7 HO7 HB7 HK7 HS7
     generalize (w7.setCell ⟨g0, 1, none⟩ (.slice A7 y.length c7)) = w8 at n0 n1 n2 n3 n4 n5 ⊢
     refine start_ (n := 7) (S := fun w' => w'.cell? ⟨g0, 0, none⟩ = some (.int .i64 a0_0) ∧ w'.cell? ⟨g0, 1, none⟩ = some (.slice A7 y.length c7)) (ds := []) (Pt.bm 7 0) (by kernel_rfl) rfl rfl ⟨(blk_cell n0.out 0).trans rfl, (blk_cell n0.out 1).trans rfl⟩ (fun hHeld => ?_)
     have m1 := Aside0.mk (blk_drew n1.out)
     have m2 := Aside0.mk (Kd.R_drew n2.out)
     have m3 := Aside0.mk (below_drew n3.out)
     have m4 := Aside0.mk n4.out.drew
     have m5 := Aside0.mk (n5.out.below (below_drew (Below.refl _ _)))
     clear n0 n1 n2 n3 n4 n5
     generalize w8.drew = w9 at m1 m2 m3 m4 m5 hHeld ⊢
     refine Pt.tk 0 (some 56) (Pt.bm 7 1) rfl rfl (by kernel_rfl) hHeld (Or.inl ⟨by rfl, by rintro w' ⟨s0, s1⟩; go_simp; with_reducible rfl⟩) ?_
     refine Pt.pu 1 (some 57) (Pt.bm 7 3) (by kernel_rfl) ?_
     refine Pt.tk 2 (some 58) (Pt.bm 7 7) rfl rfl (by kernel_rfl) hHeld (Or.inl ⟨by rfl, by rintro w' ⟨s0, s1⟩; go_simp; with_reducible rfl⟩) ?_
     refine Pt.pu 3 (some 59) (Pt.bm 7 15) (by kernel_rfl) ?_
     refine Pt.pu 4 (some 60) (Pt.bm 7 31) (by kernel_rfl) ?_
     refine one_ (i := 5) (N := none) (Pt.bm 7 63) rfl rfl (by kernel_rfl) (by decide) (fun K hK => ?_)
     have hs0 : w9.cell? ⟨gr, 0, none⟩ = some (.int .i64 0) := (blk_cell m1.out 0).trans rfl
     have hs1 : w9.cell? ⟨gr, 1, none⟩ = some (.slice none 0 0) := (blk_cell m1.out 1).trans rfl
     have hfs0 := blk_frozen m1.out 0
     have hfs1 := blk_frozen m1.out 1
     refine skip_ (w1 := ?_) (by rfl) rfl ?_ ?_
     rotate_left
     ·go_simp
      rfl
     refine hK.out _ _ ⟨((cell_far (p := ⟨gr, _, none⟩) GRD.out.symm _).trans ((cell_far (p := ⟨gr, _, none⟩) GRD.out.symm _).trans hHeld.1)), ((cell_far (p := ⟨gr, _, none⟩) GRD.out.symm _).trans ((cell_far (p := ⟨gr, _, none⟩) GRD.out.symm _).trans hHeld.2))⟩ (fun hHeld => ?_)
     clear hK K hs0 hs1 hfs0 hfs1
     refine Pt.pu 6 (some 9) (Pt.bm 7 127) (by kernel_rfl) ?_
     refine done_ (by kernel_rfl) ?_
     try go_wp2
     refine bodyPost_ret (results_ct rfl _ _ gr 48 #[.int .i64 a0_0, .slice A7 y.length c7] (0, 0) _ rfl (blk_put (blk_put m1.out 0 _ rfl) 1 _ rfl) Try.underlying48 rfl (by kernel_rfl)) rfl ?_
     rw [← HY.out]
     refine ⟨_, by first | rfl | simp [hlw, hlw'], Kd.R_set (Kd.R_set m2.out m1.out (by decide) 0 _) (blk_put m1.out 0 _ rfl) (by decide) 1 _, (m3.out.setCell (p := ⟨gr, 0, none⟩) (Nat.le_trans HB.out.size GR.out) _).setCell (p := ⟨gr, 1, none⟩) (Nat.le_trans HB.out.size GR.out) _, (m4.out.setCell (p := ⟨gr, 0, none⟩) (.inr GR.out) _).setCell (p := ⟨gr, 1, none⟩) (.inr GR.out) _, fun ok0 u0 xs0 h0 hp => ?_⟩
     obtain ⟨q1, q2⟩ := m5.out ok0 u0 xs0 h0 hp
     exact ⟨Kd.R_set (Kd.R_set q1 m1.out (by decide) 0 _) (blk_put m1.out 0 _ rfl) (by decide) 1 _, q2⟩
 ·rw [if_neg c3] at h
  cases h
theorem spec_l8Add.calls (a0_0 : Int) (P0_1_ : Nat → Prop) (u9000_ : Value) (l0_1 : List S56) (a1 a2 a3 r1 : Int) (r2 : List S56) (r3 : Int) (w0 w : World) (hB : Below w0.heap.size w0 w) (ho0_1 : Kd.R k56 56 w w0.heap.size P0_1_ u9000_ l0_1) (h : spec_l8Add.f a0_0 l0_1 a1 a2 a3 = some (r1, r2, r3)) :
  Calls Try.prog 130 #[.agg #[.int .i64 a0_0, u9000_], .int .i64 a1, .int .i64 a2, .int .i64 a3] w fun e w' => ∃ v1_ : Value, e = .returned (.tuple #[.agg #[.int .i64 r1, v1_], .int .i64 r3]) ∧ Kd.R k56 56 w' w0.heap.size (fun k_ => (P0_1_ k_ ∨ w.heap.size ≤ k_)) v1_ r2 ∧ Below w0.heap.size w0 w' ∧ Kept w w' (fun k_ => P0_1_ k_) := by
 refine (spec_l8Add.strong a0_0 (fun k_ => P0_1_ k_ ∨ w.heap.size ≤ k_) u9000_ l0_1 a1 a2 a3 r1 r2 r3 w0 w hB (Kd.R_mono ho0_1 (fun _ hk => .inl hk)) (fun _ hk => .inr hk) h).mono ?_
 rintro e w' ⟨v1, rfl, h1, h2, h3, _⟩
 exact ⟨v1, rfl, h1, h2, h3.mono (fun k hk => ho0_1.1 k hk)⟩

end Go.Proofs.Ytpcckoljocpchaa.QFnCompacted
