-- Written by a program of this session (mk.py). Lean checks it.
import Derived.Test.YtpcckoljocpchaaQFnAddPickx0
import Derived.Test.YtpcckoljocpchaaQFnAddPickx1
namespace Go.Proofs.Ytpcckoljocpchaa.QFnAddPick
open Go.RowKit Go.Proofs.YtpcckoljocpchaaW.PrintWords Go.Proofs.YtpcckoljocpchaaW.PrintLast Go.Proofs.YtpcckoljocpchaaW.PrintMore
attribute [local go_sem] max2_int min2_int max_two min_two max_three min_three max_four min_four   -- for this text's walks alone
set_option linter.unusedVariables false
set_option linter.unusedSimpArgs false

/-! ### spec_l7And: function 76 -/
mutual
def spec_l7And.j0 : Nat → Int → Int → Int → List (S92) → Option (Int × (List (S92)) × Int)
 | 0, _, _, _, _ => none
 | k + 1, x1, x2, x115000, x115001 => if x1 = 0 then (spec_l7And.j1 k x1 x2 true x115000 x115001) else (if (wrap64 (Int.tdiv x1 2)) = (wrap64 (Int.tdiv x2 2)) then (spec_l7And.j1 k x1 x2 (x1 != x2) x115000 x115001) else (spec_l7And.j1 k x1 x2 false x115000 x115001))
def spec_l7And.j1 : Nat → Int → Int → Bool → Int → List (S92) → Option (Int × (List (S92)) × Int)
 | 0, _, _, _, _, _ => none
 | k + 1, x1, x2, x29, x115000, x115001 => if x29 = true then (some (x115000, x115001, 0)) else (if x1 = 1 then (spec_l7And.j2 k x1 x2 true x115000 x115001) else (spec_l7And.j2 k x1 x2 (x1 == x2) x115000 x115001))
def spec_l7And.j2 : Nat → Int → Int → Bool → Int → List (S92) → Option (Int × (List (S92)) × Int)
 | 0, _, _, _, _, _ => none
 | k + 1, x1, x2, x37, x115000, x115001 => if x37 = true then (some (x115000, x115001, x2)) else ((spec_l7Find.f k x115000 x115001 x1 x2).bind fun t116 => (if t116 ≥ 0 then (some (x115000, x115001, wrap64 (2 * t116))) else (if (x115001.length : Int) ≥ 600 then (some (x115000, x115001, (-1))) else (if x115001.length < 8796093022208 then ((some (x115001 ++ [(⟨x1, x2⟩ : S92)] : List (S92))).bind fun y117 => ((spec_l7Nodes.f x115000 y117).bind fun t120 => (some (x115000, y117, wrap64 (2 * (wrap64 (t120 - 1))))))) else (none)))))
end
def spec_l7And.f (k : Nat) (a0_0 : Int) (l0_1 : List (S92)) (a1 : Int) (a2 : Int) : Option (Int × (List (S92)) × Int) := if a1 > a2 then (spec_l7And.j0 k a2 a1 a0_0 l0_1) else (spec_l7And.j0 k a1 a2 a0_0 l0_1)
theorem spec_l7And.mono_l : ∀ k, (∀ y0 y1 y2 y3, LeO (spec_l7And.j0 k y0 y1 y2 y3) (spec_l7And.j0 (k + 1) y0 y1 y2 y3)) ∧ (∀ y0 y1 y2 y3 y4, LeO (spec_l7And.j1 k y0 y1 y2 y3 y4) (spec_l7And.j1 (k + 1) y0 y1 y2 y3 y4)) ∧ (∀ y0 y1 y2 y3 y4, LeO (spec_l7And.j2 k y0 y1 y2 y3 y4) (spec_l7And.j2 (k + 1) y0 y1 y2 y3 y4))
 | 0 => ⟨fun _ _ _ _ r h => by simp [spec_l7And.j0] at h, fun _ _ _ _ _ r h => by simp [spec_l7And.j1] at h, fun _ _ _ _ _ r h => by simp [spec_l7And.j2] at h⟩
 | k + 1 => by
  obtain ⟨ih0, ih1, ih2⟩ := spec_l7And.mono_l k
  refine ⟨?_, ?_, ?_⟩
  ·intro y0 y1 y2 y3
   unfold spec_l7And.j0
   repeat' first
   | (with_reducible exact ih0 _ _ _ _)
   | (with_reducible exact ih1 _ _ _ _ _)
   | (with_reducible exact ih2 _ _ _ _ _)
   | (with_reducible exact spec_l7Find.mono _ _ _ _ _)
   | (with_reducible exact LeO.refl _)
   | (with_reducible exact LeO.none _)
   | (with_reducible refine LeO.ite ?_ ?_)
   | (with_reducible refine LeO.bind ?_ (fun _ => ?_))
   | exact ih0 _ _ _ _
   | exact ih1 _ _ _ _ _
   | exact ih2 _ _ _ _ _
   | exact spec_l7Find.mono _ _ _ _ _
   | exact LeO.none _
   | refine LeO.ite ?_ ?_
   | refine LeO.bind ?_ (fun _ => ?_)
  ·intro y0 y1 y2 y3 y4
   unfold spec_l7And.j1
   repeat' first
   | (with_reducible exact ih0 _ _ _ _)
   | (with_reducible exact ih1 _ _ _ _ _)
   | (with_reducible exact ih2 _ _ _ _ _)
   | (with_reducible exact spec_l7Find.mono _ _ _ _ _)
   | (with_reducible exact LeO.refl _)
   | (with_reducible exact LeO.none _)
   | (with_reducible refine LeO.ite ?_ ?_)
   | (with_reducible refine LeO.bind ?_ (fun _ => ?_))
   | exact ih0 _ _ _ _
   | exact ih1 _ _ _ _ _
   | exact ih2 _ _ _ _ _
   | exact spec_l7Find.mono _ _ _ _ _
   | exact LeO.none _
   | refine LeO.ite ?_ ?_
   | refine LeO.bind ?_ (fun _ => ?_)
  ·intro y0 y1 y2 y3 y4
   unfold spec_l7And.j2
   repeat' first
   | (with_reducible exact ih0 _ _ _ _)
   | (with_reducible exact ih1 _ _ _ _ _)
   | (with_reducible exact ih2 _ _ _ _ _)
   | (with_reducible exact spec_l7Find.mono _ _ _ _ _)
   | (with_reducible exact LeO.refl _)
   | (with_reducible exact LeO.none _)
   | (with_reducible refine LeO.ite ?_ ?_)
   | (with_reducible refine LeO.bind ?_ (fun _ => ?_))
   | exact ih0 _ _ _ _
   | exact ih1 _ _ _ _ _
   | exact ih2 _ _ _ _ _
   | exact spec_l7Find.mono _ _ _ _ _
   | exact LeO.none _
   | refine LeO.ite ?_ ?_
   | refine LeO.bind ?_ (fun _ => ?_)
theorem spec_l7And.mono : ∀ a0 a1 a2 a3 k, LeO (spec_l7And.f k a0 a1 a2 a3) (spec_l7And.f (k + 1) a0 a1 a2 a3) := by
 intro a0 a1 a2 a3 k
 obtain ⟨ih0, ih1, ih2⟩ := spec_l7And.mono_l k
 unfold spec_l7And.f
 repeat' first
   | (with_reducible exact ih0 _ _ _ _)
   | (with_reducible exact ih1 _ _ _ _ _)
   | (with_reducible exact ih2 _ _ _ _ _)
   | (with_reducible exact spec_l7Find.mono _ _ _ _ _)
   | (with_reducible exact LeO.refl _)
   | (with_reducible exact LeO.none _)
   | (with_reducible refine LeO.ite ?_ ?_)
   | (with_reducible refine LeO.bind ?_ (fun _ => ?_))
   | exact ih0 _ _ _ _
   | exact ih1 _ _ _ _ _
   | exact ih2 _ _ _ _ _
   | exact spec_l7Find.mono _ _ _ _ _
   | exact LeO.none _
   | refine LeO.ite ?_ ?_
   | refine LeO.bind ?_ (fun _ => ?_)
set_option maxHeartbeats 8000000 in
set_option maxRecDepth 100000 in
theorem spec_l7And.calls (k : Nat) (a0_0 : Int) (P0_1_ : Nat → Prop) (u9000_ : Value) (l0_1 : List (S92)) (a1 : Int) (a2 : Int) (r1 : Int) (r2 : List (S92)) (r3 : Int) (w0 w : World) (hB : Below w0.heap.size w0 w) (ho0_1 : Kd.R k92 92 w w0.heap.size P0_1_ u9000_ l0_1) (h : spec_l7And.f k a0_0 l0_1 a1 a2 = some (r1, r2, r3)) :
  Calls Try.prog 76 #[.agg #[.int .i64 a0_0, u9000_], .int .i64 a1, .int .i64 a2] w fun e w' => ∃ v1_ : Value, e = .returned (.tuple #[.agg #[.int .i64 r1, v1_], .int .i64 r3]) ∧ Kd.R k92 92 w' w0.heap.size (fun k_ => (P0_1_ k_ ∨ w.heap.size ≤ k_)) v1_ r2 ∧ Below w0.heap.size w0 w' ∧ Kept w w' (fun k_ => P0_1_ k_) := by
 have hu28 := Try.underlying28
 have hu92 := Try.underlying92
 have HO0_1 := Aside0.mk (show Kd.R k92 92 w w0.heap.size (fun k_ => (P0_1_ k_ ∨ w.heap.size ≤ k_)) u9000_ l0_1 from Kd.R_mono ho0_1 (fun k_ hk => (.inl hk)))
 have HK := Aside0.mk (Kept.refl w (fun k_ => P0_1_ k_))
 have HW0 := Aside0.mk hB.size
 have HB := Aside0.mk hB
 clear hB
 have H : (if a1 > a2 then (spec_l7And.j0 k a2 a1 a0_0 l0_1) else (spec_l7And.j0 k a1 a2 a0_0 l0_1)) = some (r1, r2, r3) := h
 clear h
 have HC4 := Aside0.mk H
 clear H
 obtain ⟨Ao5, co5, eo5⟩ := Kd.R_slice HO0_1.out
 subst eo5
 go_enter Try.func76, Try.ntmps76
 go_upto_if 12 with (first | ((with_reducible refine gate_dst (N := 3) rfl ?_); refine box_event ?hg (N := 3) ?hd (cs := #[.int .i64 a0_0, .slice Ao5 l0_1.length co5]) (t := 28) ?hr ?_; (case hd => rfl); (case hg => rfl); (case hr => first | (go_simp; done) | (go_simp; rfl)); intro gb114 hg w6 hbox hb; have n0_ := Aside0.mk (Kd.R_below (rvR HO0_1.out) hb); have n1_ := Aside0.mk (Kept.below (S := (fun k_ => P0_1_ k_)) (by repeat (first | (with_reducible first | exact HK.out | apply Kept.alloc | apply Kept.drewN | apply Kept.drew) | exact HK.out)) hb); have n2_ := Aside0.mk (below_step hbB hb); have n3_ := Aside0.mk (hbox); have n4_ := Aside0.mk ((by rw [hg]; exact (by first | exact HK.out.1 | exact (show Kept w _ (fun k_ => P0_1_ k_) from by repeat (first | (with_reducible first | exact HK.out | apply Kept.alloc | apply Kept.drewN | apply Kept.drew) | exact HK.out)).1) : w.heap.size ≤ gb114)); have n5_ := Aside0.mk ((gwb hg (below_size hbB) : w0.heap.size ≤ gb114)); clear HO0_1; clear HK; clear HB; have HO0_1 := n0_; have HK := n1_; have HB := n2_; have BK114 := n3_; have GW114 := n4_; have GE114 := n5_; clear n0_ n1_ n2_ n3_ n4_ n5_; clear hb hbox hg) | ((with_reducible refine gate_dst (N := 6) rfl ?_); refine box_event ?hg (N := 6) ?hd (cs := #[.int .i64 0, .slice none 0 0]) (t := 28) ?hr ?_; (case hd => rfl); (case hg => rfl); (case hr => first | (go_simp; done) | (go_simp; rfl)); intro gb115 hg w7 hbox hb; have n0_ := Aside0.mk (Kd.R_below (rvR HO0_1.out) hb); have n1_ := Aside0.mk (blk_below (g := gb114) (o := .cells #[.int .i64 a0_0, .slice Ao5 l0_1.length co5] 28 (0, 0)) (bvK BK114.out) hb); have n2_ := Aside0.mk (Kept.below (S := (fun k_ => P0_1_ k_)) (by repeat (first | (with_reducible first | exact HK.out | apply Kept.alloc | apply Kept.drewN | apply Kept.drew | refine Kept.setCell ?_ (.inr GW114.out) _) | exact HK.out)) hb); have n3_ := Aside0.mk (below_step hbC hb); have n4_ := Aside0.mk (hbox); have n5_ := Aside0.mk ((by rw [hg]; exact (by first | exact HK.out.1 | exact (show Kept w _ (fun k_ => P0_1_ k_) from by repeat (first | (with_reducible first | exact HK.out | apply Kept.alloc | apply Kept.drewN | apply Kept.drew | refine Kept.setCell ?_ (.inr GW114.out) _) | exact HK.out)).1) : w.heap.size ≤ gb115)); have n6_ := Aside0.mk ((gwb hg (below_size hbC) : w0.heap.size ≤ gb115)); have n7_ := Aside0.mk ((by rw [hg]; exact Nat.ne_of_lt (blk_lt (g := gb114) (o := .cells #[.int .i64 a0_0, .slice Ao5 l0_1.length co5] 28 (0, 0)) (bvK BK114.out)) : gb114 ≠ gb115)); have n8_ := Aside0.mk ((by rw [hg]; exact Nat.ne_of_gt (blk_lt (g := gb114) (o := .cells #[.int .i64 a0_0, .slice Ao5 l0_1.length co5] 28 (0, 0)) (bvK BK114.out)) : gb115 ≠ gb114)); clear HO0_1; clear BK114; clear HK; clear HB; have HO0_1 := n0_; have BK114 := n1_; have HK := n2_; have HB := n3_; have BK115 := n4_; have GW115 := n5_; have GE115 := n6_; have NB114_115 := n7_; have NB115_114 := n8_; clear n0_ n1_ n2_ n3_ n4_ n5_ n6_ n7_ n8_; clear hb hbox hg))
 (try simp only [Act.put, List.setIfInBounds_toArray, List.set_cons_zero, List.set_cons_succ])
 go_cut [1, 2] (fun v1 v2 wc => ∃ (kq : Nat) (x1_3 : Int) (x2_3 : Int), v1 = .int .i64 x1_3 ∧ v2 = .int .i64 x2_3 ∧ Aside0 (spec_l7And.j0 kq x1_3 x2_3 a0_0 l0_1 = some (r1, r2, r3)) ∧ Aside0 (kq ≤ k) ∧ Aside0 (Kd.R k92 92 wc w0.heap.size (fun k_ => (P0_1_ k_ ∨ w.heap.size ≤ k_)) (.slice Ao5 l0_1.length co5) l0_1) ∧ Aside0 (wc.heap[gb114]? = some (.cells #[.int .i64 a0_0, (.slice Ao5 l0_1.length co5)] 28 (0, 0))) ∧ Aside0 (wc.heap[gb115]? = some (.cells #[.int .i64 0, (.slice none 0 0)] 28 (0, 0))) ∧ Aside0 (Kept w wc (fun k_ => P0_1_ k_)) ∧ Aside0 (Below w0.heap.size w0 wc))
 case first =>
  have H := HC4.out
  clear HC4
  by_cases c8 : a1 > a2
  ·rw [if_pos c8] at H
   have c8b0 : decide (a2 < a1) = true := decide_eq_true c8
   clear c8
   (first | rw [c8b0] | (simp only [i64_w, i32_w]; rw [c8b0]) | skip)
   have H' := Aside0.mk H
   clear H
   go_wp2
   go_meet
   case rel => exact ⟨_, (a2), (a1), rsd, rsd, H', ⟨by first | omega | exact Nat.le_refl _⟩, ⟨rvR HO0_1.out⟩, ⟨bvK BK114.out⟩, ⟨bvK BK115.out⟩, ⟨by repeat (first | (with_reducible first | exact HK.out | apply Kept.alloc | apply Kept.drewN | apply Kept.drew | refine Kept.setCell ?_ (.inr GW114.out) _ | refine Kept.setCell ?_ (.inr GW115.out) _) | exact HK.out)⟩, ⟨hbC⟩⟩
  ·rw [if_neg c8] at H
   have c8b0 : decide (a2 < a1) = false := decide_eq_false c8
   clear c8
   (first | rw [c8b0] | (simp only [i64_w, i32_w]; rw [c8b0]) | skip)
   have H' := Aside0.mk H
   clear H
   go_wp2
   go_meet
   case rel => exact ⟨_, (a1), (a2), rsd, rsd, H', ⟨by first | omega | exact Nat.le_refl _⟩, ⟨rvR HO0_1.out⟩, ⟨bvK BK114.out⟩, ⟨bvK BK115.out⟩, ⟨by repeat (first | (with_reducible first | exact HK.out | apply Kept.alloc | apply Kept.drewN | apply Kept.drew | refine Kept.setCell ?_ (.inr GW114.out) _ | refine Kept.setCell ?_ (.inr GW115.out) _) | exact HK.out)⟩, ⟨hbC⟩⟩
 case rest =>
  clear HC4
  try clear p2
  try clear c7
  try clear c8
  try clear c8b0
  obtain ⟨kq, x1_3, x2_3, rfl, rfl, HA, HJ3, HO_115001, BK114, BK115, HK, HB⟩ := hcut
  cases kq with
  | zero => exact absurd HA.out (by simp [spec_l7And.j0])
  | succ kj3 =>
   have H := HA.out
   clear HA
   simp only [spec_l7And.j0] at H
   have HC9 := Aside0.mk H
   clear H
   go_upto_region 5 with (fail)
   go_cut [29] (fun v29 wc => ∃ (kq : Nat) (x29_8 : Bool), v29 = .bool x29_8 ∧ Aside0 (spec_l7And.j1 kq x1_3 x2_3 x29_8 a0_0 l0_1 = some (r1, r2, r3)) ∧ Aside0 (kq ≤ kj3) ∧ Aside0 (Kd.R k92 92 wc w0.heap.size (fun k_ => (P0_1_ k_ ∨ w.heap.size ≤ k_)) (.slice Ao5 l0_1.length co5) l0_1) ∧ Aside0 (wc.heap[gb114]? = some (.cells #[.int .i64 a0_0, (.slice Ao5 l0_1.length co5)] 28 (0, 0))) ∧ Aside0 (wc.heap[gb115]? = some (.cells #[.int .i64 0, (.slice none 0 0)] 28 (0, 0))) ∧ Aside0 (Kept w wc (fun k_ => P0_1_ k_)) ∧ Aside0 (Below w0.heap.size w0 wc))
   case first =>
    have H := HC9.out
    clear HC9
    by_cases c10 : x1_3 = 0
    ·rw [if_pos c10] at H
     have c10b0 : (x1_3 == 0) = true := beq_iff_eq.mpr c10
     have c10b1 : (x1_3 != 0) = false := bne_eq_false_iff_eq.mpr c10
     clear c10
     (first | rw [c10b0] | (simp only [i64_w, i32_w]; rw [c10b0]) | skip)
     have H' := Aside0.mk H
     clear H
     go_wp2
     go_meet
     case rel => exact ⟨_, (true), rsd, H', ⟨by have := HJ3.out; first | omega | exact Nat.le_refl _⟩, ⟨rvR HO_115001.out⟩, ⟨bvK BK114.out⟩, ⟨bvK BK115.out⟩, ⟨by repeat (first | (with_reducible first | exact HK.out | apply Kept.alloc | apply Kept.drewN | apply Kept.drew | refine Kept.setCell ?_ (.inr GW114.out) _ | refine Kept.setCell ?_ (.inr GW115.out) _) | exact HK.out)⟩, ⟨hbC⟩⟩
    ·rw [if_neg c10] at H
     have c10b0 : (x1_3 == 0) = false := beq_eq_false_iff_ne.mpr c10
     have c10b1 : (x1_3 != 0) = true := bne_iff_ne.mpr c10
     (first | rw [c10b0] | (simp only [i64_w, i32_w]; rw [c10b0]) | skip)
     by_cases c11 : (wrap64 (Int.tdiv x1_3 2)) = (wrap64 (Int.tdiv x2_3 2))
     ·rw [if_pos c11] at H
      have c11b0 : ((wrap64 (Int.tdiv x1_3 2)) == (wrap64 (Int.tdiv x2_3 2))) = true := beq_iff_eq.mpr c11
      have c11b1 : ((wrap64 (Int.tdiv x1_3 2)) != (wrap64 (Int.tdiv x2_3 2))) = false := bne_eq_false_iff_eq.mpr c11
      clear c11
      have H' := Aside0.mk H
      clear H
      go_wp2
      go_meet
      case rel => exact ⟨_, ((x1_3 != x2_3)), rsd, H', ⟨by have := HJ3.out; first | omega | exact Nat.le_refl _⟩, ⟨rvR HO_115001.out⟩, ⟨bvK BK114.out⟩, ⟨bvK BK115.out⟩, ⟨by repeat (first | (with_reducible first | exact HK.out | apply Kept.alloc | apply Kept.drewN | apply Kept.drew | refine Kept.setCell ?_ (.inr GW114.out) _ | refine Kept.setCell ?_ (.inr GW115.out) _) | exact HK.out)⟩, ⟨hbC⟩⟩
     ·rw [if_neg c11] at H
      have c11b0 : ((wrap64 (Int.tdiv x1_3 2)) == (wrap64 (Int.tdiv x2_3 2))) = false := beq_eq_false_iff_ne.mpr c11
      have c11b1 : ((wrap64 (Int.tdiv x1_3 2)) != (wrap64 (Int.tdiv x2_3 2))) = true := bne_iff_ne.mpr c11
      have H' := Aside0.mk H
      clear H
      go_wp2
      go_meet
      case rel => exact ⟨_, (false), rsd, H', ⟨by have := HJ3.out; first | omega | exact Nat.le_refl _⟩, ⟨rvR HO_115001.out⟩, ⟨bvK BK114.out⟩, ⟨bvK BK115.out⟩, ⟨by repeat (first | (with_reducible first | exact HK.out | apply Kept.alloc | apply Kept.drewN | apply Kept.drew | refine Kept.setCell ?_ (.inr GW114.out) _ | refine Kept.setCell ?_ (.inr GW115.out) _) | exact HK.out)⟩, ⟨hbC⟩⟩
   case rest =>
    clear HC9
    try clear c1
    try clear p2
    try clear p6
    try clear c7
    try clear c8
    try clear c8b0
    try clear c10
    try clear c10b0
    try clear c10b1
    try clear c11
    try clear c11b0
    try clear c11b1
    try clear p2
    obtain ⟨kq, x29_8, rfl, HA, HJ8, HO_115001, BK114, BK115, HK, HB⟩ := hcut
    cases kq with
    | zero => exact absurd HA.out (by simp [spec_l7And.j1])
    | succ kj8 =>
     have H := HA.out
     clear HA
     simp only [spec_l7And.j1] at H
     by_cases c12 : x29_8 = true
     ·subst c12
      have H1 : (some (a0_0, l0_1, 0)) = some (r1, r2, r3) := by rw [if_pos rfl] at H; exact H
      clear H
      have H := H1
      clear H1
      simp only [Option.some.injEq, Prod.mk.injEq] at H
      obtain ⟨rfl, rfl, rfl⟩ := H
      have hnb13 := NB114_115.out
      have hnc13 := NB115_114.out
      have hcz14_0 : wc.cell? ⟨gb114, 0, none⟩ = some (.int .i64 a0_0) := (blk_cell BK114.out 0).trans rfl
      have hcz14_1 : wc.cell? ⟨gb114, 1, none⟩ = some (.slice Ao5 l0_1.length co5) := (blk_cell BK114.out 1).trans rfl
      have hfz14_0 := blk_frozen BK114.out 0
      have hfz14_1 := blk_frozen BK114.out 1
      have hcz15_0 : wc.cell? ⟨gb115, 0, none⟩ = some (.int .i64 0) := (blk_cell BK115.out 0).trans rfl
      have hcz15_1 : wc.cell? ⟨gb115, 1, none⟩ = some (.slice none 0 0) := (blk_cell BK115.out 1).trans rfl
      have hfz15_0 := blk_frozen BK115.out 0
      have hfz15_1 := blk_frozen BK115.out 1
      go_wp2
      refine bodyPost_ret (results_ct rfl _ _ gb115 28 #[.int .i64 a0_0, .slice Ao5 l0_1.length co5] (0, 0) _ rfl (by (with_reducible repeat (first | refine blk_drewN ?_ _ | refine blk_drew ?_ | refine blk_alloc ?_ _)); refine blk_put (cs := #[.int .i64 a0_0, .slice none 0 0]) ?_ 1 _ rfl; (with_reducible repeat (first | refine blk_drewN ?_ _ | refine blk_drew ?_ | refine blk_alloc ?_ _)); refine blk_put (cs := #[.int .i64 0, .slice none 0 0]) ?_ 0 _ rfl; (with_reducible repeat (first | refine blk_drewN ?_ _ | refine blk_drew ?_ | refine blk_alloc ?_ _)); exact BK115.out) Try.underlying28 rfl (by kernel_rfl)) rfl ?_
      exact ⟨_, ers, by (with_reducible repeat (first | apply Kd.R_alloc | apply Kd.R_drewN | apply Kd.R_drew)); exact Kd.R_mono (Kd.R_far (p := ⟨gb115, 1, none⟩) (Kd.R_far (p := ⟨gb115, 0, none⟩) (Kd.R_types HO_115001.out BK115.out (by decide)) (fun _ hk => hk.2) (.int .i64 a0_0)) (fun _ hk => hk.2) (.slice Ao5 l0_1.length co5)) (fun _ hk => hk.1), hbC, by repeat (first | (with_reducible first | exact HK.out | apply Kept.alloc | apply Kept.drewN | apply Kept.drew | refine Kept.setCell ?_ (.inr GW114.out) _ | refine Kept.setCell ?_ (.inr GW115.out) _) | exact HK.out)⟩
     ·replace c12 := Bool.eq_false_iff.mpr c12
      subst c12
      have H1 : (if x1_3 = 1 then (spec_l7And.j2 kj8 x1_3 x2_3 true a0_0 l0_1) else (spec_l7And.j2 kj8 x1_3 x2_3 (x1_3 == x2_3) a0_0 l0_1)) = some (r1, r2, r3) := by rw [if_neg (show ¬ (false = true) by decide)] at H; exact H
      clear H
      have H := H1
      clear H1
      have HC16 := Aside0.mk H
      clear H
      go_upto_region 7 with (fail)
      go_cut [37] (fun v37 wc => ∃ (kq : Nat) (x37_15 : Bool), v37 = .bool x37_15 ∧ Aside0 (spec_l7And.j2 kq x1_3 x2_3 x37_15 a0_0 l0_1 = some (r1, r2, r3)) ∧ Aside0 (kq ≤ kj8) ∧ Aside0 (Kd.R k92 92 wc w0.heap.size (fun k_ => (P0_1_ k_ ∨ w.heap.size ≤ k_)) (.slice Ao5 l0_1.length co5) l0_1) ∧ Aside0 (wc.heap[gb114]? = some (.cells #[.int .i64 a0_0, (.slice Ao5 l0_1.length co5)] 28 (0, 0))) ∧ Aside0 (wc.heap[gb115]? = some (.cells #[.int .i64 0, (.slice none 0 0)] 28 (0, 0))) ∧ Aside0 (Kept w wc (fun k_ => P0_1_ k_)) ∧ Aside0 (Below w0.heap.size w0 wc))
      case first =>
       have H := HC16.out
       clear HC16
       by_cases c17 : x1_3 = 1
       ·rw [if_pos c17] at H
        have c17b0 : (x1_3 == 1) = true := beq_iff_eq.mpr c17
        have c17b1 : (x1_3 != 1) = false := bne_eq_false_iff_eq.mpr c17
        clear c17
        (first | rw [c17b0] | (simp only [i64_w, i32_w]; rw [c17b0]) | skip)
        have H' := Aside0.mk H
        clear H
        go_wp2
        go_meet
        case rel => exact ⟨_, (true), rsd, H', ⟨by have := HJ3.out; have := HJ8.out; first | omega | exact Nat.le_refl _⟩, ⟨rvR HO_115001.out⟩, ⟨bvK BK114.out⟩, ⟨bvK BK115.out⟩, ⟨by repeat (first | (with_reducible first | exact HK.out | apply Kept.alloc | apply Kept.drewN | apply Kept.drew | refine Kept.setCell ?_ (.inr GW114.out) _ | refine Kept.setCell ?_ (.inr GW115.out) _) | exact HK.out)⟩, ⟨hbC⟩⟩
       ·rw [if_neg c17] at H
        have c17b0 : (x1_3 == 1) = false := beq_eq_false_iff_ne.mpr c17
        have c17b1 : (x1_3 != 1) = true := bne_iff_ne.mpr c17
        (first | rw [c17b0] | (simp only [i64_w, i32_w]; rw [c17b0]) | skip)
        have H' := Aside0.mk H
        clear H
        go_wp2
        go_meet
        case rel => exact ⟨_, ((x1_3 == x2_3)), rsd, H', ⟨by have := HJ3.out; have := HJ8.out; first | omega | exact Nat.le_refl _⟩, ⟨rvR HO_115001.out⟩, ⟨bvK BK114.out⟩, ⟨bvK BK115.out⟩, ⟨by repeat (first | (with_reducible first | exact HK.out | apply Kept.alloc | apply Kept.drewN | apply Kept.drew | refine Kept.setCell ?_ (.inr GW114.out) _ | refine Kept.setCell ?_ (.inr GW115.out) _) | exact HK.out)⟩, ⟨hbC⟩⟩
      case rest =>
       clear HC16
       try clear c1
       try clear p2
       try clear p6
       try clear c7
       try clear c8
       try clear c8b0
       try clear c10
       try clear c10b0
       try clear c10b1
       try clear c11
       try clear c11b0
       try clear c11b1
       try clear c12
       try clear c13
       try clear c17
       try clear c17b0
       try clear c17b1
       try clear hcz14_0
       try clear hcz14_1
       try clear hcz15_0
       try clear hcz15_1
       try clear hfz14_0
       try clear hfz14_1
       try clear hfz15_0
       try clear hfz15_1
       try clear p2
       try clear p6
       obtain ⟨kq, x37_15, rfl, HA, HJ15, HO_115001, BK114, BK115, HK, HB⟩ := hcut
       cases kq with
       | zero => exact absurd HA.out (by simp [spec_l7And.j2])
       | succ kj15 =>
        have H := HA.out
        clear HA
        simp only [spec_l7And.j2] at H
        by_cases c18 : x37_15 = true
        ·subst c18
         have H1 : (some (a0_0, l0_1, x2_3)) = some (r1, r2, r3) := by rw [if_pos rfl] at H; exact H
         clear H
         have H := H1
         clear H1
         simp only [Option.some.injEq, Prod.mk.injEq] at H
         obtain ⟨rfl, rfl, rfl⟩ := H
         have hnb19 := NB114_115.out
         have hnc19 := NB115_114.out
         have hcz20_0 : wc.cell? ⟨gb114, 0, none⟩ = some (.int .i64 a0_0) := (blk_cell BK114.out 0).trans rfl
         have hcz20_1 : wc.cell? ⟨gb114, 1, none⟩ = some (.slice Ao5 l0_1.length co5) := (blk_cell BK114.out 1).trans rfl
         have hfz20_0 := blk_frozen BK114.out 0
         have hfz20_1 := blk_frozen BK114.out 1
         have hcz21_0 : wc.cell? ⟨gb115, 0, none⟩ = some (.int .i64 0) := (blk_cell BK115.out 0).trans rfl
         have hcz21_1 : wc.cell? ⟨gb115, 1, none⟩ = some (.slice none 0 0) := (blk_cell BK115.out 1).trans rfl
         have hfz21_0 := blk_frozen BK115.out 0
         have hfz21_1 := blk_frozen BK115.out 1
         go_wp2
         refine bodyPost_ret (results_ct rfl _ _ gb115 28 #[.int .i64 a0_0, .slice Ao5 l0_1.length co5] (0, 0) _ rfl (by (with_reducible repeat (first | refine blk_drewN ?_ _ | refine blk_drew ?_ | refine blk_alloc ?_ _)); refine blk_put (cs := #[.int .i64 a0_0, .slice none 0 0]) ?_ 1 _ rfl; (with_reducible repeat (first | refine blk_drewN ?_ _ | refine blk_drew ?_ | refine blk_alloc ?_ _)); refine blk_put (cs := #[.int .i64 0, .slice none 0 0]) ?_ 0 _ rfl; (with_reducible repeat (first | refine blk_drewN ?_ _ | refine blk_drew ?_ | refine blk_alloc ?_ _)); exact BK115.out) Try.underlying28 rfl (by kernel_rfl)) rfl ?_
         exact ⟨_, ers, by (with_reducible repeat (first | apply Kd.R_alloc | apply Kd.R_drewN | apply Kd.R_drew)); exact Kd.R_mono (Kd.R_far (p := ⟨gb115, 1, none⟩) (Kd.R_far (p := ⟨gb115, 0, none⟩) (Kd.R_types HO_115001.out BK115.out (by decide)) (fun _ hk => hk.2) (.int .i64 a0_0)) (fun _ hk => hk.2) (.slice Ao5 l0_1.length co5)) (fun _ hk => hk.1), hbC, by repeat (first | (with_reducible first | exact HK.out | apply Kept.alloc | apply Kept.drewN | apply Kept.drew | refine Kept.setCell ?_ (.inr GW114.out) _ | refine Kept.setCell ?_ (.inr GW115.out) _) | exact HK.out)⟩
        ·replace c18 := Bool.eq_false_iff.mpr c18
         subst c18
         have H1 : ((spec_l7Find.f kj15 a0_0 l0_1 x1_3 x2_3).bind fun t116 => (if t116 ≥ 0 then (some (a0_0, l0_1, wrap64 (2 * t116))) else (if (l0_1.length : Int) ≥ 600 then (some (a0_0, l0_1, (-1))) else (if l0_1.length < 8796093022208 then ((some (l0_1 ++ [(⟨x1_3, x2_3⟩ : S92)] : List (S92))).bind fun y117 => ((spec_l7Nodes.f a0_0 y117).bind fun t120 => (some (a0_0, y117, wrap64 (2 * (wrap64 (t120 - 1))))))) else (none))))) = some (r1, r2, r3) := by rw [if_neg (show ¬ (false = true) by decide)] at H; exact H
         clear H
         have H := H1
         clear H1
         replace H := Option.bind_eq_some_iff.mp H
         obtain ⟨t116, A220, H⟩ := H
         replace H : (if t116 ≥ 0 then (some (a0_0, l0_1, wrap64 (2 * t116))) else (if (l0_1.length : Int) ≥ 600 then (some (a0_0, l0_1, (-1))) else (if l0_1.length < 8796093022208 then ((some (l0_1 ++ [(⟨x1_3, x2_3⟩ : S92)] : List (S92))).bind fun y117 => ((spec_l7Nodes.f a0_0 y117).bind fun t120 => (some (a0_0, y117, wrap64 (2 * (wrap64 (t120 - 1))))))) else (none)))) = some (r1, r2, r3) := H
         have A22 := Aside0.mk A220
         clear A220
         by_cases c23 : t116 ≥ 0
         ·rw [if_pos c23] at H
          have c23b0 : decide (0 ≤ t116) = true := decide_eq_true c23
          clear c23
          simp only [Option.some.injEq, Prod.mk.injEq] at H
          obtain ⟨rfl, rfl, rfl⟩ := H
          have hnb24 := NB114_115.out
          have hnc24 := NB115_114.out
          have hcz25_0 : wc.cell? ⟨gb114, 0, none⟩ = some (.int .i64 a0_0) := (blk_cell BK114.out 0).trans rfl
          have hcz25_1 : wc.cell? ⟨gb114, 1, none⟩ = some (.slice Ao5 l0_1.length co5) := (blk_cell BK114.out 1).trans rfl
          have hfz25_0 := blk_frozen BK114.out 0
          have hfz25_1 := blk_frozen BK114.out 1
          go_wp2_with (first | ((with_reducible refine gate_callee (f := 114) rfl ?_); refine goesL_ (some 43) rfl rfl Try.func114 (by kernel_rfl) rfl #[.agg #[.int .i64 a0_0, .slice Ao5 l0_1.length co5], .int .i64 x1_3, .int .i64 x2_3] rfl lmB ?_; (with_reducible refine (spec_l7Find.calls kj15 a0_0 _ _ l0_1 x1_3 x2_3 t116 _ ?side1 ?side2 A22.out).mono ?_); (case side1 => exact kcR (Kd.R_reads' HO_115001.out).2.2); (case side2 => exact (Kd.R_reads' HO_115001.out).2.1); rintro e w26 ⟨rfl, hb⟩; refine ⟨_, rfl, ?_⟩; have n0_ := Aside0.mk (Kd.R_below (rvR HO_115001.out) hb); have n1_ := Aside0.mk (blk_below (g := gb114) (o := .cells #[.int .i64 a0_0, .slice Ao5 l0_1.length co5] 28 (0, 0)) (bvK BK114.out) hb); have n2_ := Aside0.mk (blk_below (g := gb115) (o := .cells #[.int .i64 0, .slice none 0 0] 28 (0, 0)) (bvK BK115.out) hb); have n3_ := Aside0.mk (Kept.below (S := (fun k_ => P0_1_ k_)) (by repeat (first | (with_reducible first | exact HK.out | apply Kept.alloc | apply Kept.drewN | apply Kept.drew | refine Kept.setCell ?_ (.inr GW114.out) _ | refine Kept.setCell ?_ (.inr GW115.out) _) | exact HK.out)) hb); have n4_ := Aside0.mk (below_step hbC hb); clear HO_115001; clear BK114; clear BK115; clear HK; clear HB; have HO_115001 := n0_; have BK114 := n1_; have BK115 := n2_; have HK := n3_; have HB := n4_; clear n0_ n1_ n2_ n3_ n4_; (try clear hb); (try clear hb2); (try clear hk); (try clear hi); have hcz27_0 : w26.cell? ⟨gb114, 0, none⟩ = some (.int .i64 a0_0) := (blk_cell BK114.out 0).trans rfl; have hcz27_1 : w26.cell? ⟨gb114, 1, none⟩ = some (.slice Ao5 l0_1.length co5) := (blk_cell BK114.out 1).trans rfl; have hfz27_0 := blk_frozen BK114.out 0; have hfz27_1 := blk_frozen BK114.out 1; have hcz28_0 : w26.cell? ⟨gb115, 0, none⟩ = some (.int .i64 0) := (blk_cell BK115.out 0).trans rfl; have hcz28_1 : w26.cell? ⟨gb115, 1, none⟩ = some (.slice none 0 0) := (blk_cell BK115.out 1).trans rfl; have hfz28_0 := blk_frozen BK115.out 0; have hfz28_1 := blk_frozen BK115.out 1))
          refine bodyPost_ret (results_ct rfl _ _ gb115 28 #[.int .i64 a0_0, .slice Ao5 l0_1.length co5] (0, 0) _ rfl (by (with_reducible repeat (first | refine blk_drewN ?_ _ | refine blk_drew ?_ | refine blk_alloc ?_ _)); refine blk_put (cs := #[.int .i64 a0_0, .slice none 0 0]) ?_ 1 _ rfl; (with_reducible repeat (first | refine blk_drewN ?_ _ | refine blk_drew ?_ | refine blk_alloc ?_ _)); refine blk_put (cs := #[.int .i64 0, .slice none 0 0]) ?_ 0 _ rfl; (with_reducible repeat (first | refine blk_drewN ?_ _ | refine blk_drew ?_ | refine blk_alloc ?_ _)); exact BK115.out) Try.underlying28 rfl (by kernel_rfl)) rfl ?_
          exact ⟨_, ers, by (with_reducible repeat (first | apply Kd.R_alloc | apply Kd.R_drewN | apply Kd.R_drew)); exact Kd.R_mono (Kd.R_far (p := ⟨gb115, 1, none⟩) (Kd.R_far (p := ⟨gb115, 0, none⟩) (Kd.R_types HO_115001.out BK115.out (by decide)) (fun _ hk => hk.2) (.int .i64 a0_0)) (fun _ hk => hk.2) (.slice Ao5 l0_1.length co5)) (fun _ hk => hk.1), hbC, by repeat (first | (with_reducible first | exact HK.out | apply Kept.alloc | apply Kept.drewN | apply Kept.drew | refine Kept.setCell ?_ (.inr GW114.out) _ | refine Kept.setCell ?_ (.inr GW115.out) _) | exact HK.out)⟩
         ·rw [if_neg c23] at H
          have c23b0 : decide (0 ≤ t116) = false := decide_eq_false c23
          clear c23
          by_cases c29 : (l0_1.length : Int) ≥ 600
          ·rw [if_pos c29] at H
           have c29b0 : decide (600 ≤ (l0_1.length : Int)) = true := decide_eq_true c29
           have c29b1 : decide (600 ≤ l0_1.length) = true := decide_eq_true (by omega)
           clear c29
           simp only [Option.some.injEq, Prod.mk.injEq] at H
           obtain ⟨rfl, rfl, rfl⟩ := H
           have hnb30 := NB114_115.out
           have hnc30 := NB115_114.out
           have hcz31_0 : wc.cell? ⟨gb114, 0, none⟩ = some (.int .i64 a0_0) := (blk_cell BK114.out 0).trans rfl
           have hcz31_1 : wc.cell? ⟨gb114, 1, none⟩ = some (.slice Ao5 l0_1.length co5) := (blk_cell BK114.out 1).trans rfl
           have hfz31_0 := blk_frozen BK114.out 0
           have hfz31_1 := blk_frozen BK114.out 1
           go_wp2_with (first | ((with_reducible refine gate_callee (f := 114) rfl ?_); refine goesL_ (some 43) rfl rfl Try.func114 (by kernel_rfl) rfl #[.agg #[.int .i64 a0_0, .slice Ao5 l0_1.length co5], .int .i64 x1_3, .int .i64 x2_3] rfl lmB ?_; (with_reducible refine (spec_l7Find.calls kj15 a0_0 _ _ l0_1 x1_3 x2_3 t116 _ ?side1 ?side2 A22.out).mono ?_); (case side1 => exact kcR (Kd.R_reads' HO_115001.out).2.2); (case side2 => exact (Kd.R_reads' HO_115001.out).2.1); rintro e w32 ⟨rfl, hb⟩; refine ⟨_, rfl, ?_⟩; have n0_ := Aside0.mk (Kd.R_below (rvR HO_115001.out) hb); have n1_ := Aside0.mk (blk_below (g := gb114) (o := .cells #[.int .i64 a0_0, .slice Ao5 l0_1.length co5] 28 (0, 0)) (bvK BK114.out) hb); have n2_ := Aside0.mk (blk_below (g := gb115) (o := .cells #[.int .i64 0, .slice none 0 0] 28 (0, 0)) (bvK BK115.out) hb); have n3_ := Aside0.mk (Kept.below (S := (fun k_ => P0_1_ k_)) (by repeat (first | (with_reducible first | exact HK.out | apply Kept.alloc | apply Kept.drewN | apply Kept.drew | refine Kept.setCell ?_ (.inr GW114.out) _ | refine Kept.setCell ?_ (.inr GW115.out) _) | exact HK.out)) hb); have n4_ := Aside0.mk (below_step hbC hb); clear HO_115001; clear BK114; clear BK115; clear HK; clear HB; have HO_115001 := n0_; have BK114 := n1_; have BK115 := n2_; have HK := n3_; have HB := n4_; clear n0_ n1_ n2_ n3_ n4_; (try clear hb); (try clear hb2); (try clear hk); (try clear hi); have hcz33_0 : w32.cell? ⟨gb114, 0, none⟩ = some (.int .i64 a0_0) := (blk_cell BK114.out 0).trans rfl; have hcz33_1 : w32.cell? ⟨gb114, 1, none⟩ = some (.slice Ao5 l0_1.length co5) := (blk_cell BK114.out 1).trans rfl; have hfz33_0 := blk_frozen BK114.out 0; have hfz33_1 := blk_frozen BK114.out 1; have hcz34_0 : w32.cell? ⟨gb115, 0, none⟩ = some (.int .i64 0) := (blk_cell BK115.out 0).trans rfl; have hcz34_1 : w32.cell? ⟨gb115, 1, none⟩ = some (.slice none 0 0) := (blk_cell BK115.out 1).trans rfl; have hfz34_0 := blk_frozen BK115.out 0; have hfz34_1 := blk_frozen BK115.out 1))
           refine bodyPost_ret (results_ct rfl _ _ gb115 28 #[.int .i64 a0_0, .slice Ao5 l0_1.length co5] (0, 0) _ rfl (by (with_reducible repeat (first | refine blk_drewN ?_ _ | refine blk_drew ?_ | refine blk_alloc ?_ _)); refine blk_put (cs := #[.int .i64 a0_0, .slice none 0 0]) ?_ 1 _ rfl; (with_reducible repeat (first | refine blk_drewN ?_ _ | refine blk_drew ?_ | refine blk_alloc ?_ _)); refine blk_put (cs := #[.int .i64 0, .slice none 0 0]) ?_ 0 _ rfl; (with_reducible repeat (first | refine blk_drewN ?_ _ | refine blk_drew ?_ | refine blk_alloc ?_ _)); exact BK115.out) Try.underlying28 rfl (by kernel_rfl)) rfl ?_
           exact ⟨_, ers, by (with_reducible repeat (first | apply Kd.R_alloc | apply Kd.R_drewN | apply Kd.R_drew)); exact Kd.R_mono (Kd.R_far (p := ⟨gb115, 1, none⟩) (Kd.R_far (p := ⟨gb115, 0, none⟩) (Kd.R_types HO_115001.out BK115.out (by decide)) (fun _ hk => hk.2) (.int .i64 a0_0)) (fun _ hk => hk.2) (.slice Ao5 l0_1.length co5)) (fun _ hk => hk.1), hbC, by repeat (first | (with_reducible first | exact HK.out | apply Kept.alloc | apply Kept.drewN | apply Kept.drew | refine Kept.setCell ?_ (.inr GW114.out) _ | refine Kept.setCell ?_ (.inr GW115.out) _) | exact HK.out)⟩
          ·rw [if_neg c29] at H
           have c29b0 : decide (600 ≤ (l0_1.length : Int)) = false := decide_eq_false c29
           have c29b1 : decide (600 ≤ l0_1.length) = false := decide_eq_false (by omega)
           clear c29
           by_cases c35 : l0_1.length < 8796093022208
           ·rw [if_pos c35] at H
            have LMc35 := Aside0.mk c35
            clear c35
            obtain ⟨y117, hy117⟩ : ∃ y_ : List (S92), y_ = (l0_1 ++ [(⟨x1_3, x2_3⟩ : S92)]) := ⟨_, rfl⟩
            replace H : ((spec_l7Nodes.f a0_0 y117).bind fun t120 => (some (a0_0, y117, wrap64 (2 * (wrap64 (t120 - 1)))))) = some (r1, r2, r3) := by first | (rw [hy117]; with_reducible exact H) | (have H2_ := (Option.bind_some _ _).symm.trans H; rw [hy117]; with_reducible exact H2_) | (have H2_ := (Option.bind_some _ _).symm.trans H; with_reducible exact H2_) | with_reducible exact H | (rw [hy117]; exact H) | exact H
            have Ny117 := Aside0.mk hy117
            clear hy117
            replace H := Option.bind_eq_some_iff.mp H
            obtain ⟨t120, A360, H⟩ := H
            replace H : (some (a0_0, y117, wrap64 (2 * (wrap64 (t120 - 1))))) = some (r1, r2, r3) := H
            have A36 := Aside0.mk A360
            clear A360
            simp only [Option.some.injEq, Prod.mk.injEq] at H
            obtain ⟨rfl, rfl, rfl⟩ := H
            have hnb37 := NB114_115.out
            have hnc37 := NB115_114.out
            have hcz38_0 : wc.cell? ⟨gb114, 0, none⟩ = some (.int .i64 a0_0) := (blk_cell BK114.out 0).trans rfl
            have hcz38_1 : wc.cell? ⟨gb114, 1, none⟩ = some (.slice Ao5 l0_1.length co5) := (blk_cell BK114.out 1).trans rfl
            have hfz38_0 := blk_frozen BK114.out 0
            have hfz38_1 := blk_frozen BK114.out 1
            try go_wp2_with (first | ((with_reducible refine gate_callee (f := 114) rfl ?_); refine goesL_ (some 43) rfl rfl Try.func114 (by kernel_rfl) rfl #[.agg #[.int .i64 a0_0, .slice Ao5 l0_1.length co5], .int .i64 x1_3, .int .i64 x2_3] rfl lmB ?_; (with_reducible refine (spec_l7Find.calls kj15 a0_0 _ _ l0_1 x1_3 x2_3 t116 _ ?side1 ?side2 A22.out).mono ?_); (case side1 => exact kcR (Kd.R_reads' HO_115001.out).2.2); (case side2 => exact (Kd.R_reads' HO_115001.out).2.1); rintro e w39 ⟨rfl, hb⟩; refine ⟨_, rfl, ?_⟩; have n0_ := Aside0.mk (Kd.R_below (rvR HO_115001.out) hb); have n1_ := Aside0.mk (blk_below (g := gb114) (o := .cells #[.int .i64 a0_0, .slice Ao5 l0_1.length co5] 28 (0, 0)) (bvK BK114.out) hb); have n2_ := Aside0.mk (blk_below (g := gb115) (o := .cells #[.int .i64 0, .slice none 0 0] 28 (0, 0)) (bvK BK115.out) hb); have n3_ := Aside0.mk (Kept.below (S := (fun k_ => P0_1_ k_)) (by repeat (first | (with_reducible first | exact HK.out | apply Kept.alloc | apply Kept.drewN | apply Kept.drew | refine Kept.setCell ?_ (.inr GW114.out) _ | refine Kept.setCell ?_ (.inr GW115.out) _) | exact HK.out)) hb); have n4_ := Aside0.mk (below_step hbC hb); clear HO_115001; clear BK114; clear BK115; clear HK; clear HB; have HO_115001 := n0_; have BK114 := n1_; have BK115 := n2_; have HK := n3_; have HB := n4_; clear n0_ n1_ n2_ n3_ n4_; (try clear hb); (try clear hb2); (try clear hk); (try clear hi); have hcz40_0 : w39.cell? ⟨gb114, 0, none⟩ = some (.int .i64 a0_0) := (blk_cell BK114.out 0).trans rfl; have hcz40_1 : w39.cell? ⟨gb114, 1, none⟩ = some (.slice Ao5 l0_1.length co5) := (blk_cell BK114.out 1).trans rfl; have hfz40_0 := blk_frozen BK114.out 0; have hfz40_1 := blk_frozen BK114.out 1) | ((with_reducible refine gate_builtin (b := .append) (xs := #[.tmp 55, .tmp 59]) rfl ?_); at_builtin; refine Kd.R_append k92 (w0 := w0) w0.heap.size rfl (.tmp 55) (.tmp 59) 26 92 (.agg #[(.int .i64 0), (.int .i64 0)]) 16 rfl Try.underlying26 info92 rfl (by decide) (by omega) (.slice Ao5 l0_1.length co5) l0_1 (⟨x1_3, x2_3⟩ : S92) [.int .i64 x1_3, .int .i64 x2_3] (fun k_ => (P0_1_ k_ ∨ w.heap.size ≤ k_)) (fun _ => False) rfl rfl ?aP (fun _ hk => hk.elim) ?aF ?aO ?aB ?aS ?aL ?_; (case aP => exact k92_mkM _ _ _ (⟨x1_3, x2_3⟩ : S92)); (case aB => exact hbC); (case aF => exact (fun k_ hk => (.inr (Nat.le_trans (by first | exact HK.out.1 | exact (show Kept w _ (fun k_ => P0_1_ k_) from by repeat (first | (with_reducible first | exact HK.out | apply Kept.alloc | apply Kept.drewN | apply Kept.drew | refine Kept.setCell ?_ (.inr GW114.out) _ | refine Kept.setCell ?_ (.inr GW115.out) _) | exact HK.out)).1) hk)))); (case aO => exact (rvR HO_115001.out)); (case aS => exact (below_size hbC)); (case aL => have := LMc35.out; omega); intro v118 w41 ho hb hg hat; rw [← Ny117.out] at ho; have n0_ := Aside0.mk (blk_grown (g := gb114) (o := .cells #[.int .i64 a0_0, .slice Ao5 l0_1.length co5] 28 (0, 0)) (bvK BK114.out) hg (Kd.R_ne HO_115001.out BK114.out (by decide))); have n1_ := Aside0.mk (blk_grown (g := gb115) (o := .cells #[.int .i64 0, .slice none 0 0] 28 (0, 0)) (bvK BK115.out) hg (Kd.R_ne HO_115001.out BK115.out (by decide))); have n2_ := Aside0.mk (hb); have n3_ := Aside0.mk (Kept.of_grown (S := (fun k_ => P0_1_ k_)) hg (by repeat (first | (with_reducible first | exact HK.out | apply Kept.alloc | apply Kept.drewN | apply Kept.drew | refine Kept.setCell ?_ (.inr GW114.out) _ | refine Kept.setCell ?_ (.inr GW115.out) _) | exact HK.out)) (fun k_ e_ => (HO_115001.out.1 k_ e_))); have n4_ := Aside0.mk (ho); clear BK114; clear BK115; clear HB; clear HK; clear HO_115001; have BK114 := n0_; have BK115 := n1_; have HB := n2_; have HK := n3_; have HO119 := n4_; clear n0_ n1_ n2_ n3_ n4_; clear ho hb hg hat; obtain ⟨Ao42, co42, eo42⟩ := Kd.R_slice HO119.out; subst eo42; have hcz43_0 : w41.cell? ⟨gb114, 0, none⟩ = some (.int .i64 a0_0) := (blk_cell BK114.out 0).trans rfl; have hcz43_1 : w41.cell? ⟨gb114, 1, none⟩ = some (.slice Ao5 l0_1.length co5) := (blk_cell BK114.out 1).trans rfl; have hfz43_0 := blk_frozen BK114.out 0; have hfz43_1 := blk_frozen BK114.out 1))
            have n0_ : Aside0 (Kd.R k92 92 (w41.setCell ⟨gb114, 1, none⟩ (.slice Ao42 y117.length co42)) w0.heap.size (fun k_ => (P0_1_ k_ ∨ w.heap.size ≤ k_)) (.slice Ao42 y117.length co42) y117) := ⟨by (with_reducible repeat (first | apply Kd.R_alloc | apply Kd.R_drewN | apply Kd.R_drew)); exact Kd.R_mono (Kd.R_far (p := ⟨gb114, 1, none⟩) (Kd.R_types HO119.out BK114.out (by decide)) (fun _ hk => hk.2) (.slice Ao42 y117.length co42)) (fun _ hk => hk.1)⟩
            have n1_ : Aside0 ((w41.setCell ⟨gb114, 1, none⟩ (.slice Ao42 y117.length co42)).heap[gb114]? = some (.cells #[.int .i64 a0_0, .slice Ao42 y117.length co42] 28 (0, 0))) := ⟨by (with_reducible repeat (first | refine blk_drewN ?_ _ | refine blk_drew ?_ | refine blk_alloc ?_ _)); refine blk_put (cs := #[.int .i64 a0_0, .slice Ao5 l0_1.length co5]) ?_ 1 _ rfl; (with_reducible repeat (first | refine blk_drewN ?_ _ | refine blk_drew ?_ | refine blk_alloc ?_ _)); exact BK114.out⟩
            have n2_ : Aside0 ((w41.setCell ⟨gb114, 1, none⟩ (.slice Ao42 y117.length co42)).heap[gb115]? = some (.cells #[.int .i64 0, .slice none 0 0] 28 (0, 0))) := ⟨by (with_reducible repeat (first | refine blk_drewN ?_ _ | refine blk_drew ?_ | refine blk_alloc ?_ _)); refine blk_far ?_ NB115_114.out _; (with_reducible repeat (first | refine blk_drewN ?_ _ | refine blk_drew ?_ | refine blk_alloc ?_ _)); exact BK115.out⟩
            have n3_ : Aside0 (Kept w (w41.setCell ⟨gb114, 1, none⟩ (.slice Ao42 y117.length co42)) (fun k_ => P0_1_ k_)) := ⟨by repeat (first | (with_reducible first | exact HK.out | apply Kept.alloc | apply Kept.drewN | apply Kept.drew | refine Kept.setCell ?_ (.inr GW114.out) _ | refine Kept.setCell ?_ (.inr GW115.out) _) | exact HK.out)⟩
            have n4_ : Aside0 (Below w0.heap.size w0 (w41.setCell ⟨gb114, 1, none⟩ (.slice Ao42 y117.length co42))) := ⟨hbC⟩
            (try clear HO119)
            (try clear BK114)
            (try clear BK115)
            (try clear HK)
            (try clear HB)
            generalize (w41.setCell ⟨gb114, 1, none⟩ (.slice Ao42 y117.length co42)) = w44 at n0_ n1_ n2_ n3_ n4_ ⊢
            have HO119 := n0_
            have BK114 := n1_
            have BK115 := n2_
            have HK := n3_
            have HB := n4_
            clear n0_ n1_ n2_ n3_ n4_
            have n0_ := Aside0.mk (Kd.R_drew HO119.out)
            have n1_ := Aside0.mk (blk_drew BK114.out)
            have n2_ := Aside0.mk (blk_drew BK115.out)
            have n3_ := Aside0.mk (Kept.drew HK.out)
            have n4_ := Aside0.mk (below_drew1 HB.out)
            clear HO119
            clear BK114
            clear BK115
            clear HK
            clear HB
            have HO119 := n0_
            have BK114 := n1_
            have BK115 := n2_
            have HK := n3_
            have HB := n4_
            clear n0_ n1_ n2_ n3_ n4_
            refine start_ (n := 7) (S := fun w' => w'.cell? ⟨gb114, 0, none⟩ = some (.int .i64 a0_0) ∧ w'.cell? ⟨gb114, 1, none⟩ = some (.slice Ao42 y117.length co42)) (ds := []) (Pt.bm 7 0) (by kernel_rfl) rfl rfl ⟨(blk_cell BK114.out 0).trans rfl, (blk_cell BK114.out 1).trans rfl⟩ (fun hHeld => ?_)
            generalize w44.drew = w45 at HO119 BK114 BK115 HK HB hHeld ⊢
            refine Pt.tk 0 (some 62) (Pt.bm 7 1) rfl rfl (by kernel_rfl) hHeld (Or.inl ⟨by rfl, by rintro w' ⟨s0, s1⟩; go_simp; with_reducible rfl⟩) ?_
            refine Pt.tk 1 (some 63) (Pt.bm 7 3) rfl rfl (by kernel_rfl) hHeld (Or.inl ⟨by rfl, by rintro w' ⟨s0, s1⟩; go_simp; with_reducible rfl⟩) ?_
            refine one_ (i := 2) (N := some 64) (Pt.bm 7 7) rfl rfl (by kernel_rfl) (by decide) (fun K hK => ?_)
            refine goes_ Try.func105 (by kernel_rfl) rfl #[.agg #[.int .i64 a0_0, .slice Ao42 y117.length co42]] (by rfl) rfl rfl lmB ?_
            with_reducible refine (spec_l7Nodes.calls a0_0 _ _ y117 t120 _ ?side1 ?side2 A36.out).mono ?_
            (case side1 => exact kcR (Kd.R_reads' HO119.out).2.2)
            (case side2 => exact (Kd.R_reads' HO119.out).2.1)
            rintro e w46 ⟨rfl, hb⟩
            refine ⟨_, rfl, ?_⟩
            have n0_ := Aside0.mk (Kd.R_below (rvR HO119.out) hb)
            have n1_ := Aside0.mk (blk_below (g := gb114) (o := .cells #[.int .i64 a0_0, .slice Ao42 y117.length co42] 28 (0, 0)) (bvK BK114.out) hb)
            have n2_ := Aside0.mk (blk_below (g := gb115) (o := .cells #[.int .i64 0, .slice none 0 0] 28 (0, 0)) (bvK BK115.out) hb)
            have n3_ := Aside0.mk (Kept.below (S := (fun k_ => P0_1_ k_)) (by repeat (first | (with_reducible first | exact HK.out | apply Kept.alloc | apply Kept.drewN | apply Kept.drew | refine Kept.setCell ?_ (.inr GW114.out) _ | refine Kept.setCell ?_ (.inr GW115.out) _) | exact HK.out)) hb)
            have n4_ := Aside0.mk (below_step hbC hb)
            clear HO119
            clear BK114
            clear BK115
            clear HK
            clear HB
            have HO119 := n0_
            have BK114 := n1_
            have BK115 := n2_
            have HK := n3_
            have HB := n4_
            clear n0_ n1_ n2_ n3_ n4_
            (try clear hb)
            (try clear hb2)
            (try clear hk)
            (try clear hi)
            refine hK.out _ _ ⟨(blk_cell BK114.out 0).trans rfl, (blk_cell BK114.out 1).trans rfl⟩ (fun hHeld => ?_)
            clear hK K
            refine norm_ (a' := ?_) ?_ ?_
            rotate_left
            ·show Act.put _ (some 64) _ = _
             simp only [Act.put, List.setIfInBounds_toArray, List.set_cons_zero, List.set_cons_succ, i64_w, i32_w]
             rfl
            refine Pt.pu 3 (some 65) (Pt.bm 7 15) (by kernel_rfl) ?_
            refine Pt.pu 4 (some 66) (Pt.bm 7 31) (by kernel_rfl) ?_
            refine one_ (i := 5) (N := none) (Pt.bm 7 63) rfl rfl (by kernel_rfl) (by decide) (fun K hK => ?_)
            have hs47 : w46.cell? ⟨gb115, 0, none⟩ = some (.int .i64 0) := (blk_cell BK115.out 0).trans rfl
            have hfs47 := blk_frozen BK115.out 0
            have hns47_0 := NB114_115.out
            have hms47_0 := NB115_114.out
            have hs48 : w46.cell? ⟨gb115, 1, none⟩ = some (.slice none 0 0) := (blk_cell BK115.out 1).trans rfl
            have hfs48 := blk_frozen BK115.out 1
            have hns48_0 := NB114_115.out
            have hms48_0 := NB115_114.out
            refine skip_ (w1 := ?_) (by rfl) rfl ?_ ?_
            rotate_left
            ·go_simp
             rfl
            refine hK.out _ _ ⟨((cell_far (p := ⟨gb115, _, none⟩) NB114_115.out _).trans (((cell_far (p := ⟨gb115, _, none⟩) NB114_115.out _).trans (hHeld.1)))), ((cell_far (p := ⟨gb115, _, none⟩) NB114_115.out _).trans (((cell_far (p := ⟨gb115, _, none⟩) NB114_115.out _).trans (hHeld.2))))⟩ (fun hHeld => ?_)
            clear hK K
            refine Pt.pu 6 (some 7) (Pt.bm 7 127) (by kernel_rfl) ?_
            refine done_ (by kernel_rfl) ?_
            try go_wp2
            refine bodyPost_ret (results_ct rfl _ _ gb115 28 #[.int .i64 a0_0, .slice Ao42 y117.length co42] (0, 0) _ rfl (by (with_reducible repeat (first | refine blk_drewN ?_ _ | refine blk_drew ?_ | refine blk_alloc ?_ _)); refine blk_put (cs := #[.int .i64 a0_0, .slice none 0 0]) ?_ 1 _ rfl; (with_reducible repeat (first | refine blk_drewN ?_ _ | refine blk_drew ?_ | refine blk_alloc ?_ _)); refine blk_put (cs := #[.int .i64 0, .slice none 0 0]) ?_ 0 _ rfl; (with_reducible repeat (first | refine blk_drewN ?_ _ | refine blk_drew ?_ | refine blk_alloc ?_ _)); exact BK115.out) Try.underlying28 rfl (by kernel_rfl)) rfl ?_
            exact ⟨_, ers, by (with_reducible repeat (first | apply Kd.R_alloc | apply Kd.R_drewN | apply Kd.R_drew)); exact Kd.R_mono (Kd.R_far (p := ⟨gb115, 1, none⟩) (Kd.R_far (p := ⟨gb115, 0, none⟩) (Kd.R_types HO119.out BK115.out (by decide)) (fun _ hk => hk.2) (.int .i64 a0_0)) (fun _ hk => hk.2) (.slice Ao42 y117.length co42)) (fun _ hk => hk.1), hbC, by repeat (first | (with_reducible first | exact HK.out | apply Kept.alloc | apply Kept.drewN | apply Kept.drew | refine Kept.setCell ?_ (.inr GW114.out) _ | refine Kept.setCell ?_ (.inr GW115.out) _) | exact HK.out)⟩
           ·rw [if_neg c35] at H
            exact absurd H (by simp)

end Go.Proofs.Ytpcckoljocpchaa.QFnAddPick
