-- Written by a program of this session (mk.py). Lean checks it.
import Derived.Test.YtpcckoljocpchaaQFnAddPickx0
import Derived.Test.YtpcckoljocpchaaQFnAddPickx1
import Derived.Test.YtpcckoljocpchaaQFnAddPickx4
namespace Go.Proofs.Ytpcckoljocpchaa.QFnAddPick
open Go.RowKit Go.Proofs.YtpcckoljocpchaaW.PrintWords Go.Proofs.YtpcckoljocpchaaW.PrintLast Go.Proofs.YtpcckoljocpchaaW.PrintMore
attribute [local go_sem] max2_int min2_int max_two min_two max_three min_three max_four min_four   -- for this text's walks alone
set_option linter.unusedVariables false
set_option linter.unusedSimpArgs false

/-! ### spec_l7Copy: function 56 -/
def spec_l7Copy.l0 : Nat → Int → Int → List (S92) → Int → List (S92) → Option (Int × (List (S92)))
 | 0, _, _, _, _, _ => none
 | k + 1, x4, x133000, x133001, x135000, x135001 => if x4 < (x133001.length : Int) then (if 0 ≤ x4 then (if x135001.length < 8796093022208 then (spec_l7Copy.l0 k (wrap64 (x4 + 1)) x133000 x133001 x135000 (x135001 ++ [(⟨(rd_T92 x133001 x4).f0, (rd_T92 x133001 x4).f1⟩ : S92)])) else (none)) else (none)) else (some (x135000, x135001))
def spec_l7Copy.f (k : Nat) (a0_0 : Int) (l0_1 : List (S92)) : Option (Int × (List (S92))) := spec_l7Copy.l0 k 0 a0_0 l0_1 a0_0 ([] : List (S92))
theorem spec_l7Copy.mono_l : ∀ k, (∀ y0 y1 y2 y3 y4, LeO (spec_l7Copy.l0 k y0 y1 y2 y3 y4) (spec_l7Copy.l0 (k + 1) y0 y1 y2 y3 y4))
 | 0 => fun _ _ _ _ _ r h => by simp [spec_l7Copy.l0] at h
 | k + 1 => by
  have ih0 := spec_l7Copy.mono_l k
  ·intro y0 y1 y2 y3 y4
   unfold spec_l7Copy.l0
   repeat' first
   | (with_reducible exact ih0 _ _ _ _ _)
   | (with_reducible exact LeO.refl _)
   | (with_reducible exact LeO.none _)
   | (with_reducible refine LeO.ite ?_ ?_)
   | (with_reducible refine LeO.bind ?_ (fun _ => ?_))
   | exact ih0 _ _ _ _ _
   | exact LeO.none _
   | refine LeO.ite ?_ ?_
   | refine LeO.bind ?_ (fun _ => ?_)
theorem spec_l7Copy.mono : ∀ a0 a1 k, LeO (spec_l7Copy.f k a0 a1) (spec_l7Copy.f (k + 1) a0 a1) := by
 intro a0 a1 k
 have ih0 := spec_l7Copy.mono_l k
 unfold spec_l7Copy.f
 repeat' first
   | (with_reducible exact ih0 _ _ _ _ _)
   | (with_reducible exact LeO.refl _)
   | (with_reducible exact LeO.none _)
   | (with_reducible refine LeO.ite ?_ ?_)
   | (with_reducible refine LeO.bind ?_ (fun _ => ?_))
   | exact ih0 _ _ _ _ _
   | exact LeO.none _
   | refine LeO.ite ?_ ?_
   | refine LeO.bind ?_ (fun _ => ?_)
def spec_l7Copy.T5 : Bool × List (List Nat × List Nat) := (true, [([], []), ([0], [0]), ([], []), ([2], [2]), ([], []), ([3, 4], [3, 4]), ([5], [5]), ([6], [6]), ([1, 7], [1, 7]), ([0, 1, 2, 3, 4, 5, 6, 7, 8], []), ([9, 8, 8, 0, 1, 2, 3, 4, 5, 6, 7, 8], [8, 9])])
def spec_l7Copy.B5 : List Nat := [0, 1, 0, 4, 0, 28, 60, 124, 255, 511, 1023]
theorem spec_l7Copy.tab5 : rtab .any (opsOf Try.f56 5) = spec_l7Copy.T5 := by kernel_rfl
theorem spec_l7Copy.bits5 : waitsOk spec_l7Copy.T5.2 spec_l7Copy.B5 = true := by kernel_rfl
set_option maxHeartbeats 8000000 in
set_option maxRecDepth 100000 in
theorem spec_l7Copy.calls (k : Nat) (a0_0 : Int) (A0_1 : Option Addr) (c0_1 : Nat) (l0_1 : List (S92)) (r1 : Int) (r2 : List (S92)) (w : World) (hr0_1 : Kd.C k92 w A0_1 l0_1.length l0_1) (hc0_1 : l0_1.length ≤ c0_1) (h : spec_l7Copy.f k a0_0 l0_1 = some (r1, r2)) :
  Calls Try.prog 56 #[.agg #[.int .i64 a0_0, .slice A0_1 l0_1.length c0_1]] w fun e w' => ∃ v1_ : Value, e = .returned (.agg #[.int .i64 r1, v1_]) ∧ Kd.R k92 92 w' w.heap.size (fun _ => True) v1_ r2 ∧ Below w.heap.size w w' := by
 have hu28 := Try.underlying28
 have hu92 := Try.underlying92
 have HR0_1 := Aside0.mk hr0_1
 have HC0_1 := Aside0.mk hc0_1
 clear hr0_1 hc0_1
 have HB := Aside0.mk (Below.refl w.heap.size w)
 have H : (spec_l7Copy.l0 k 0 a0_0 l0_1 a0_0 ([] : List (S92))) = some (r1, r2) := h
 clear h
 have H' := Aside0.mk H
 clear H
 go_enter Try.func56, Try.ntmps56
 go_wp2_with (first | ((with_reducible refine gate_dst (N := 1) rfl ?_); refine box_event ?hg (N := 1) ?hd (cs := #[.int .i64 a0_0, .slice A0_1 l0_1.length c0_1]) (t := 28) ?hr ?_; (case hd => rfl); (case hg => rfl); (case hr => first | (go_simp; done) | (go_simp; rfl)); intro gb132 hg w2 hbox hb; have n0_ := Aside0.mk (below_step hbB hb); have n1_ := Aside0.mk (hbox); have n2_ := Aside0.mk ((gwb hg (below_size hbB) : w.heap.size ≤ gb132)); have n3_ := n2_; clear HB; have HB := n0_; have BK132 := n1_; have GW132 := n2_; have GE132 := n3_; clear n0_ n1_ n2_ n3_; clear hb hbox hg) | ((with_reducible refine gate_dst (N := 2) rfl ?_); refine box_event ?hg (N := 2) ?hd (cs := #[.int .i64 0, .slice none 0 0]) (t := 28) ?hr ?_; (case hd => rfl); (case hg => rfl); (case hr => first | (go_simp; done) | (go_simp; rfl)); intro gb133 hg w3 hbox hb; have n0_ := Aside0.mk (blk_below (g := gb132) (o := .cells #[.int .i64 a0_0, .slice A0_1 l0_1.length c0_1] 28 (0, 0)) (bvK BK132.out) hb); have n1_ := Aside0.mk (below_step hbC hb); have n2_ := Aside0.mk (hbox); have n3_ := Aside0.mk ((gwb hg (below_size hbC) : w.heap.size ≤ gb133)); have n4_ := n3_; have n5_ := Aside0.mk ((by rw [hg]; exact Nat.ne_of_lt (blk_lt (g := gb132) (o := .cells #[.int .i64 a0_0, .slice A0_1 l0_1.length c0_1] 28 (0, 0)) (bvK BK132.out)) : gb132 ≠ gb133)); have n6_ := Aside0.mk ((by rw [hg]; exact Nat.ne_of_gt (blk_lt (g := gb132) (o := .cells #[.int .i64 a0_0, .slice A0_1 l0_1.length c0_1] 28 (0, 0)) (bvK BK132.out)) : gb133 ≠ gb132)); clear BK132; clear HB; have BK132 := n0_; have HB := n1_; have BK133 := n2_; have GW133 := n3_; have GE133 := n4_; have NB132_133 := n5_; have NB133_132 := n6_; clear n0_ n1_ n2_ n3_ n4_ n5_ n6_; clear hb hbox hg; have hnb4 := NB132_133.out; have hnc4 := NB133_132.out; have hcz5_0 : w3.cell? ⟨gb132, 0, none⟩ = some (.int .i64 a0_0) := (blk_cell BK132.out 0).trans rfl; have hcz5_1 : w3.cell? ⟨gb132, 1, none⟩ = some (.slice A0_1 l0_1.length c0_1) := (blk_cell BK132.out 1).trans rfl; have hfz5_0 := blk_frozen BK132.out 0; have hfz5_1 := blk_frozen BK132.out 1) | ((with_reducible refine gate_dst (N := 3) rfl ?_); refine box_event ?hg (N := 3) ?hd (cs := #[.int .i64 0, .slice none 0 0]) (t := 28) ?hr ?_; (case hd => rfl); (case hg => rfl); (case hr => first | (go_simp; done) | (go_simp; rfl)); intro gb134 hg w6 hbox hb; have n0_ := Aside0.mk (blk_below (g := gb132) (o := .cells #[.int .i64 a0_0, .slice A0_1 l0_1.length c0_1] 28 (0, 0)) (bvK BK132.out) hb); have n1_ := Aside0.mk (blk_below (g := gb133) (o := .cells #[.int .i64 0, .slice none 0 0] 28 (0, 0)) (bvK BK133.out) hb); have n2_ := Aside0.mk (below_step hbC hb); have n3_ := Aside0.mk (hbox); have n4_ := Aside0.mk ((gwb hg (below_size hbC) : w.heap.size ≤ gb134)); have n5_ := n4_; have n6_ := Aside0.mk ((by rw [hg]; exact Nat.ne_of_lt (blk_lt (g := gb132) (o := .cells #[.int .i64 a0_0, .slice A0_1 l0_1.length c0_1] 28 (0, 0)) (bvK BK132.out)) : gb132 ≠ gb134)); have n7_ := Aside0.mk ((by rw [hg]; exact Nat.ne_of_gt (blk_lt (g := gb132) (o := .cells #[.int .i64 a0_0, .slice A0_1 l0_1.length c0_1] 28 (0, 0)) (bvK BK132.out)) : gb134 ≠ gb132)); have n8_ := Aside0.mk ((by rw [hg]; exact Nat.ne_of_lt (blk_lt (g := gb133) (o := .cells #[.int .i64 0, .slice none 0 0] 28 (0, 0)) (bvK BK133.out)) : gb133 ≠ gb134)); have n9_ := Aside0.mk ((by rw [hg]; exact Nat.ne_of_gt (blk_lt (g := gb133) (o := .cells #[.int .i64 0, .slice none 0 0] 28 (0, 0)) (bvK BK133.out)) : gb134 ≠ gb133)); clear BK132; clear BK133; clear HB; have BK132 := n0_; have BK133 := n1_; have HB := n2_; have BK134 := n3_; have GW134 := n4_; have GE134 := n5_; have NB132_134 := n6_; have NB134_132 := n7_; have NB133_134 := n8_; have NB134_133 := n9_; clear n0_ n1_ n2_ n3_ n4_ n5_ n6_ n7_ n8_ n9_; clear hb hbox hg; have hnb7 := NB134_132.out; have hnc7 := NB132_134.out; have hnb8 := NB134_133.out; have hnc8 := NB133_134.out; have hcz9_0 : w6.cell? ⟨gb134, 0, none⟩ = some (.int .i64 0) := (blk_cell BK134.out 0).trans rfl; have hcz9_1 : w6.cell? ⟨gb134, 1, none⟩ = some (.slice none 0 0) := (blk_cell BK134.out 1).trans rfl; have hfz9_0 := blk_frozen BK134.out 0; have hfz9_1 := blk_frozen BK134.out 1))
 go_loopg [4] k (fun kq v4 w' => ∃ (x4_1 : Int) (x135001_1 : List (S92)) (u135001 : Value), v4 = .int .i64 x4_1 ∧ Aside0 (spec_l7Copy.l0 kq x4_1 a0_0 l0_1 a0_0 x135001_1 = some (r1, r2)) ∧ Aside0 (kq ≤ k) ∧ Aside0 (Kd.R k92 92 w' w.heap.size (fun _ => True) u135001 x135001_1) ∧ Aside0 (w'.heap[gb132]? = some (.cells #[.int .i64 a0_0, (.slice A0_1 l0_1.length c0_1)] 28 (0, 0))) ∧ Aside0 (w'.heap[gb133]? = some (.cells #[.int .i64 0, (.slice none 0 0)] 28 (0, 0))) ∧ Aside0 (w'.heap[gb134]? = some (.cells #[.int .i64 a0_0, u135001] 28 (0, 0))) ∧ Aside0 (Below w.heap.size w w'))
 case atStart => exact ⟨(0), (([] : List (S92))), (.slice none 0 0), rsd, H', ⟨Nat.le_refl _⟩, ⟨by first | exact Kd.R_nil _ _ _ _ _ | exact Kd.N_nil _ _ _ _ _ | exact Kd.V_nil _ _ _ _ _ | exact Kd.Q_nil _ _ _ _ _ | exact Kd.S_nil _ _ _ _ _⟩, ⟨by (with_reducible repeat (first | refine blk_drewN ?_ _ | refine blk_drew ?_ | refine blk_alloc ?_ _)); refine blk_far ?_ NB132_134.out _; (with_reducible repeat (first | refine blk_drewN ?_ _ | refine blk_drew ?_ | refine blk_alloc ?_ _)); refine blk_far ?_ NB132_134.out _; (with_reducible repeat (first | refine blk_drewN ?_ _ | refine blk_drew ?_ | refine blk_alloc ?_ _)); exact BK132.out⟩, ⟨by (with_reducible repeat (first | refine blk_drewN ?_ _ | refine blk_drew ?_ | refine blk_alloc ?_ _)); refine blk_far ?_ NB133_134.out _; (with_reducible repeat (first | refine blk_drewN ?_ _ | refine blk_drew ?_ | refine blk_alloc ?_ _)); refine blk_far ?_ NB133_134.out _; (with_reducible repeat (first | refine blk_drewN ?_ _ | refine blk_drew ?_ | refine blk_alloc ?_ _)); exact BK133.out⟩, ⟨by (with_reducible repeat (first | refine blk_drewN ?_ _ | refine blk_drew ?_ | refine blk_alloc ?_ _)); refine blk_put (cs := #[.int .i64 a0_0, .slice none 0 0]) ?_ 1 _ rfl; (with_reducible repeat (first | refine blk_drewN ?_ _ | refine blk_drew ?_ | refine blk_alloc ?_ _)); refine blk_put (cs := #[.int .i64 0, .slice none 0 0]) ?_ 0 _ rfl; (with_reducible repeat (first | refine blk_drewN ?_ _ | refine blk_drew ?_ | refine blk_alloc ?_ _)); exact BK134.out⟩, ⟨hbC⟩⟩
 case round =>
  clear H'
  try clear p2
  try clear c4
  try clear c5
  try clear c7
  try clear c8
  try clear hcz5_0
  try clear hcz5_1
  try clear hcz9_0
  try clear hcz9_1
  try clear hfz5_0
  try clear hfz5_1
  try clear hfz9_0
  try clear hfz9_1
  obtain ⟨x4_1, x135001_1, u135001, rfl, HA, HK1, HO_135001, BK132, BK133, BK134, HB⟩ := hrel
  cases gk with
  | zero => exact absurd HA.out (by simp [spec_l7Copy.l0])
  | succ k1 =>
   have H := HA.out
   clear HA
   simp only [spec_l7Copy.l0] at H
   by_cases c10 : x4_1 < (l0_1.length : Int)
   ·rw [if_pos c10] at H
    have c10b0 : decide (x4_1 < (l0_1.length : Int)) = true := decide_eq_true c10
    clear c10
    by_cases c11 : 0 ≤ x4_1
    ·rw [if_pos c11] at H
     have c11b0 : decide (0 ≤ x4_1) = true := decide_eq_true c11
     clear c11
     by_cases c12 : x135001_1.length < 8796093022208
     ·rw [if_pos c12] at H
      have LMc12 := Aside0.mk c12
      clear c12
      obtain ⟨y136, hy136⟩ : ∃ y_ : List (S92), y_ = (x135001_1 ++ [(⟨(rd_T92 l0_1 x4_1).f0, (rd_T92 l0_1 x4_1).f1⟩ : S92)]) := ⟨_, rfl⟩
      replace H : (spec_l7Copy.l0 k1 (wrap64 (x4_1 + 1)) a0_0 l0_1 a0_0 y136) = some (r1, r2) := by first | (rw [hy136]; with_reducible exact H) | (have H2_ := (Option.bind_some _ _).symm.trans H; rw [hy136]; with_reducible exact H2_) | (have H2_ := (Option.bind_some _ _).symm.trans H; with_reducible exact H2_) | with_reducible exact H | (rw [hy136]; exact H) | exact H
      have Ny136 := Aside0.mk hy136
      clear hy136
      have H' := Aside0.mk H
      clear H
      have hnb13 := NB132_133.out
      have hnc13 := NB133_132.out
      have hnb14 := NB132_134.out
      have hnc14 := NB134_132.out
      have hcz15_0 : wr.cell? ⟨gb132, 0, none⟩ = some (.int .i64 a0_0) := (blk_cell BK132.out 0).trans rfl
      have hcz15_1 : wr.cell? ⟨gb132, 1, none⟩ = some (.slice A0_1 l0_1.length c0_1) := (blk_cell BK132.out 1).trans rfl
      have hfz15_0 := blk_frozen BK132.out 0
      have hfz15_1 := blk_frozen BK132.out 1
      try go_wp2
      have n0_ := Aside0.mk (Kd.R_drew HO_135001.out)
      have n1_ := Aside0.mk (blk_drew BK132.out)
      have n2_ := Aside0.mk (blk_drew BK133.out)
      have n3_ := Aside0.mk (blk_drew BK134.out)
      have n4_ := Aside0.mk (below_drew1 HB.out)
      clear HO_135001
      clear BK132
      clear BK133
      clear BK134
      clear HB
      have HO_135001 := n0_
      have BK132 := n1_
      have BK133 := n2_
      have BK134 := n3_
      have HB := n4_
      clear n0_ n1_ n2_ n3_ n4_
      have p135 : 0 ≤ (x4_1 : Int) := oda
      have q135 : x4_1 < (l0_1.length : Int) := oda
      obtain ⟨ad135, e135, hx135_0, hx135_1⟩ := at_T92 HR0_1.out x4_1 p135 q135
      have hw135_1 := hx135_1
      have hw135_0 := hx135_0
      cases e135
      try replace hx135_0 := bct HB.out hx135_0
      try replace hx135_1 := bct HB.out hx135_1
      replace p135 := eq_true p135
      replace q135 := eq_true q135
      refine start_ (n := 11) (S := fun w' => w'.cell? ⟨gb134, 0, none⟩ = some (.int .i64 a0_0) ∧ w'.cell? ⟨gb134, 1, none⟩ = some (u135001) ∧ w'.cell? ⟨gb132, 0, none⟩ = some (.int .i64 a0_0) ∧ w'.cell? ⟨gb132, 1, none⟩ = some (.slice (some ad135) l0_1.length c0_1) ∧ w'.cell? (ad135.add ((x4_1).toNat * 2)) = some (.int .i64 ((rd_T92 l0_1 x4_1).f0)) ∧ w'.cell? ⟨(ad135.add ((x4_1).toNat * 2)).block, (ad135.add ((x4_1).toNat * 2)).off + 1, none⟩ = some (.int .i64 ((rd_T92 l0_1 x4_1).f1))) (ds := [10]) (Pt.bm 11 0) (by kernel_rfl) rfl rfl ⟨(blk_cell BK134.out 0).trans rfl, (blk_cell BK134.out 1).trans rfl, (blk_cell BK132.out 0).trans rfl, (blk_cell BK132.out 1).trans rfl, ((HB.out.cell (World.block_lt_of_cell? w _ hw135_0)).trans hw135_0), ((HB.out.cell (World.block_lt_of_cell? w _ hw135_1)).trans hw135_1)⟩ (fun hHeld => ?_); refine with_tabW spec_l7Copy.tab5 spec_l7Copy.bits5 (fun HT_ HW_ => ?_)
      generalize wr.drew = w16 at HO_135001 BK132 BK133 BK134 HB hx135_0 hx135_1 hHeld ⊢
      refine Pt.pu 0 (some 15) (Pt.bm 11 1) (any_of HT_.out (by kernel_rfl)) ?_
      refine Pt.pu 2 (some 17) (Pt.bm 11 5) (any_of HT_.out (by kernel_rfl)) ?_
      refine Pt.pu 4 (some 19) (Pt.bm 11 21) (any_of HT_.out (by kernel_rfl)) ?_
      refine Pt.tk 1 (some 16) (Pt.bm 11 23) rfl rfl (take_ofW HT_.out HW_.out (by kernel_rfl)) hHeld (Or.inl ⟨by rfl, by rintro w' ⟨s0, s1, s2, s3, s4, s5⟩; go_simp; with_reducible rfl⟩) ?_
      refine Pt.tk 3 (some 18) (Pt.bm 11 31) rfl rfl (take_ofW HT_.out HW_.out (by kernel_rfl)) hHeld (Or.inl ⟨by rfl, by rintro w' ⟨s0, s1, s2, s3, s4, s5⟩; go_simp; with_reducible rfl⟩) ?_
      refine Pt.pu 5 (some 20) (Pt.bm 11 63) (any_of HT_.out (by kernel_rfl)) ?_
      refine Pt.tk 6 (some 21) (Pt.bm 11 127) rfl rfl (take_ofW HT_.out HW_.out (by kernel_rfl)) hHeld (Or.inl ⟨by rfl, by rintro w' ⟨s0, s1, s2, s3, s4, s5⟩; go_simp; with_reducible rfl⟩) ?_
      refine one_ (i := 7) (N := some 22) (Pt.bm 11 255) rfl rfl (one_of HT_.out (by kernel_rfl)) (by decide) (fun K hK => ?_)
      refine value_ (w1 := ?_) (v := ?_) (by rfl) rfl ?_ ?_
      rotate_left 2
      ·go_simp
       constructor
       ·rfl
       ·rfl
      refine hK.out _ _ ⟨(blk_cell (blk_alloc BK134.out _) 0).trans rfl, (blk_cell (blk_alloc BK134.out _) 1).trans rfl, (blk_cell (blk_alloc BK132.out _) 0).trans rfl, (blk_cell (blk_alloc BK132.out _) 1).trans rfl, (World.cell?_alloc_lt _ _ _ (World.block_lt_of_cell? _ _ (((HB.out.cell (World.block_lt_of_cell? w _ hw135_0)).trans hw135_0)))).trans (((HB.out.cell (World.block_lt_of_cell? w _ hw135_0)).trans hw135_0)), (World.cell?_alloc_lt _ _ _ (World.block_lt_of_cell? _ _ (((HB.out.cell (World.block_lt_of_cell? w _ hw135_1)).trans hw135_1)))).trans (((HB.out.cell (World.block_lt_of_cell? w _ hw135_1)).trans hw135_1))⟩ (fun hHeld => ?_)
      clear hK K
      refine norm_ (a' := ?_) ?_ ?_
      rotate_left
      ·show Act.put _ (some 22) _ = _
       simp only [Act.put, List.setIfInBounds_toArray, List.set_cons_zero, List.set_cons_succ, i64_w, i32_w]
       rfl
      refine one_ (i := 8) (N := some 23) (Pt.bm 11 511) rfl rfl (one_of HT_.out (by kernel_rfl)) (by decide) (fun K hK => ?_)
      refine Kd.R_append_step k92 (w0 := w) w.heap.size (by rfl) (.tmp 16) (.tmp 22) 26 92 (.agg #[(.int .i64 0), (.int .i64 0)]) 16 rfl Try.underlying26 info92 rfl (by decide) (by omega) u135001 x135001_1 (⟨(rd_T92 l0_1 x4_1).f0, (rd_T92 l0_1 x4_1).f1⟩ : S92) [.int .i64 ((rd_T92 l0_1 x4_1).f0), .int .i64 ((rd_T92 l0_1 x4_1).f1)] (fun _ => True) (fun _ => False) rfl rfl ?aP (fun _ hk => hk.elim) ?aF ?aO ?aB ?aS ?aL ?_
      (case aP => exact k92_mkM _ _ _ (⟨(rd_T92 l0_1 x4_1).f0, (rd_T92 l0_1 x4_1).f1⟩ : S92))
      (case aB => exact hbC)
      (case aF => exact (fun _ _ => trivial))
      (case aO => exact (rvR HO_135001.out))
      (case aS => exact (below_size hbC))
      (case aL => have := LMc12.out; omega)
      intro v137 w17 ho hb hg hat
      rw [← Ny136.out] at ho
      have n0_ := Aside0.mk (blk_grown (g := gb132) (o := .cells #[.int .i64 a0_0, .slice (some ad135) l0_1.length c0_1] 28 (0, 0)) (bvK BK132.out) hg (Kd.R_ne HO_135001.out BK132.out (by decide)))
      have n1_ := Aside0.mk (blk_grown (g := gb133) (o := .cells #[.int .i64 0, .slice none 0 0] 28 (0, 0)) (bvK BK133.out) hg (Kd.R_ne HO_135001.out BK133.out (by decide)))
      have n2_ := Aside0.mk (blk_grown (g := gb134) (o := .cells #[.int .i64 a0_0, u135001] 28 (0, 0)) (bvK BK134.out) hg (Kd.R_ne HO_135001.out BK134.out (by decide)))
      have n3_ := Aside0.mk (hb)
      have n4_ := Aside0.mk (ho)
      clear BK132
      clear BK133
      clear BK134
      clear HB
      clear HO_135001
      have BK132 := n0_
      have BK133 := n1_
      have BK134 := n2_
      have HB := n3_
      have HO138 := n4_
      clear n0_ n1_ n2_ n3_ n4_
      clear ho hb hg hat
      obtain ⟨Ao18, co18, eo18⟩ := Kd.R_slice HO138.out
      (first | subst eo18 | (injection eo18 with f1_ f2_ f3_; have f4_ := f1_.symm; have f5_ := f3_.symm; clear f1_ f2_ f3_; subst f4_; subst f5_))
      refine hK.out _ _ ⟨(blk_cell BK134.out 0).trans rfl, (blk_cell BK134.out 1).trans rfl, (blk_cell BK132.out 0).trans rfl, (blk_cell BK132.out 1).trans rfl, ((HB.out.cell (World.block_lt_of_cell? w _ hw135_0)).trans hw135_0), ((HB.out.cell (World.block_lt_of_cell? w _ hw135_1)).trans hw135_1)⟩ (fun hHeld => ?_)
      clear hK K
      refine norm_ (a' := ?_) ?_ ?_
      rotate_left
      ·show Act.put _ (some 23) _ = _
       simp only [Act.put, List.setIfInBounds_toArray, List.set_cons_zero, List.set_cons_succ, i64_w, i32_w]
       rfl
      refine Pt.pu 9 (some 24) (Pt.bm 11 1023) (any_of HT_.out (by kernel_rfl)) ?_
      refine last_ (i := 10) (N := none) (Pt.bm 11 2047) rfl rfl (one_of HT_.out (by kernel_rfl)) (by decide) (fun K hK => ?_)
      have hs19 : w17.cell? ⟨gb134, 1, none⟩ = some (u135001) := (blk_cell BK134.out 1).trans rfl
      have hfs19 := blk_frozen BK134.out 1
      have hns19_0 := NB132_134.out
      have hns19_1 := NB133_134.out
      have hms19_0 := NB134_132.out
      have hms19_1 := NB134_133.out
      refine skip_ (w1 := ?_) (by rfl) rfl ?_ ?_
      rotate_left
      ·go_simp
       rfl
      refine hK.out _ _ ?_
      clear hK K
      refine done_ (done_of HT_.out (by kernel_rfl)) ?_
      try go_wp2
      go_roundg k1
      case measure => have := HK1.out; omega
      case rel => exact ⟨(wrap64 (x4_1 + 1)), (y136), (.slice Ao18 y136.length co18), rsd, H', ⟨by have := HK1.out; omega⟩, ⟨by (with_reducible repeat (first | apply Kd.R_alloc | apply Kd.R_drewN | apply Kd.R_drew)); exact Kd.R_mono (Kd.R_far (p := ⟨gb134, 1, none⟩) (Kd.R_types HO138.out BK134.out (by decide)) (fun _ hk => hk.2) (.slice Ao18 y136.length co18)) (fun _ hk => trivial)⟩, ⟨by (with_reducible repeat (first | refine blk_drewN ?_ _ | refine blk_drew ?_ | refine blk_alloc ?_ _)); refine blk_far ?_ NB132_134.out _; (with_reducible repeat (first | refine blk_drewN ?_ _ | refine blk_drew ?_ | refine blk_alloc ?_ _)); exact BK132.out⟩, ⟨by (with_reducible repeat (first | refine blk_drewN ?_ _ | refine blk_drew ?_ | refine blk_alloc ?_ _)); refine blk_far ?_ NB133_134.out _; (with_reducible repeat (first | refine blk_drewN ?_ _ | refine blk_drew ?_ | refine blk_alloc ?_ _)); exact BK133.out⟩, ⟨by (with_reducible repeat (first | refine blk_drewN ?_ _ | refine blk_drew ?_ | refine blk_alloc ?_ _)); refine blk_put (cs := #[.int .i64 a0_0, u135001]) ?_ 1 _ rfl; (with_reducible repeat (first | refine blk_drewN ?_ _ | refine blk_drew ?_ | refine blk_alloc ?_ _)); exact BK134.out⟩, ⟨hbC⟩⟩
     ·rw [if_neg c12] at H
      exact absurd H (by simp)
    ·rw [if_neg c11] at H
     exact absurd H (by simp)
   ·rw [if_neg c10] at H
    have c10b0 : decide (x4_1 < (l0_1.length : Int)) = false := decide_eq_false c10
    clear c10
    simp only [Option.some.injEq, Prod.mk.injEq] at H
    obtain ⟨rfl, rfl⟩ := H
    have hnb20 := NB132_133.out
    have hnc20 := NB133_132.out
    have hnb21 := NB132_134.out
    have hnc21 := NB134_132.out
    have hcz22_0 : wr.cell? ⟨gb132, 0, none⟩ = some (.int .i64 a0_0) := (blk_cell BK132.out 0).trans rfl
    have hcz22_1 : wr.cell? ⟨gb132, 1, none⟩ = some (.slice A0_1 l0_1.length c0_1) := (blk_cell BK132.out 1).trans rfl
    have hfz22_0 := blk_frozen BK132.out 0
    have hfz22_1 := blk_frozen BK132.out 1
    have hnb23 := NB134_133.out
    have hnc23 := NB133_134.out
    have hcz24_0 : wr.cell? ⟨gb134, 0, none⟩ = some (.int .i64 a0_0) := (blk_cell BK134.out 0).trans rfl
    have hcz24_1 : wr.cell? ⟨gb134, 1, none⟩ = some (u135001) := (blk_cell BK134.out 1).trans rfl
    have hfz24_0 := blk_frozen BK134.out 0
    have hfz24_1 := blk_frozen BK134.out 1
    have hcz25_0 : wr.cell? ⟨gb133, 0, none⟩ = some (.int .i64 0) := (blk_cell BK133.out 0).trans rfl
    have hcz25_1 : wr.cell? ⟨gb133, 1, none⟩ = some (.slice none 0 0) := (blk_cell BK133.out 1).trans rfl
    have hfz25_0 := blk_frozen BK133.out 0
    have hfz25_1 := blk_frozen BK133.out 1
    obtain ⟨Ao26, co26, eo26⟩ := Kd.R_slice HO_135001.out
    subst eo26
    go_wp2
    refine bodyPost_ret (results_cell_row rfl _ _ gb133 28 #[.int .i64 a0_0, .slice Ao26 x135001_1.length co26] (0, 0) _ rfl (by (with_reducible repeat (first | refine blk_drewN ?_ _ | refine blk_drew ?_ | refine blk_alloc ?_ _)); refine blk_put (cs := #[.int .i64 a0_0, .slice none 0 0]) ?_ 1 _ rfl; (with_reducible repeat (first | refine blk_drewN ?_ _ | refine blk_drew ?_ | refine blk_alloc ?_ _)); refine blk_put (cs := #[.int .i64 0, .slice none 0 0]) ?_ 0 _ rfl; (with_reducible repeat (first | refine blk_drewN ?_ _ | refine blk_drew ?_ | refine blk_alloc ?_ _)); exact BK133.out) Try.underlying28 rfl (by kernel_rfl)) rfl ?_
    exact ⟨_, ers, by (with_reducible repeat (first | apply Kd.R_alloc | apply Kd.R_drewN | apply Kd.R_drew)); exact Kd.R_mono (Kd.R_far (p := ⟨gb133, 1, none⟩) (Kd.R_far (p := ⟨gb133, 0, none⟩) (Kd.R_types HO_135001.out BK133.out (by decide)) (fun _ hk => hk.2) (.int .i64 a0_0)) (fun _ hk => hk.2) (.slice Ao26 x135001_1.length co26)) (fun _ hk => trivial), hbC⟩

/-! ### spec_l7Told: function 57 -/
def spec_l7Told.f (a0_0 : Int) (l0_1 : List (S92)) (a1 : Int) : Option (Int × (List (S92)) × Int) := if a1 < 0 then (some (0, ([] : List (S92)), (-1))) else (some (a0_0, l0_1, a1))
set_option maxHeartbeats 8000000 in
set_option maxRecDepth 100000 in
theorem spec_l7Told.calls (a0_0 : Int) (P0_1_ : Nat → Prop) (u9000_ : Value) (l0_1 : List (S92)) (a1 : Int) (r1 : Int) (r2 : List (S92)) (r3 : Int) (w0 w : World) (hB : Below w0.heap.size w0 w) (ho0_1 : Kd.R k92 92 w w0.heap.size P0_1_ u9000_ l0_1) (h : spec_l7Told.f a0_0 l0_1 a1 = some (r1, r2, r3)) :
  Calls Try.prog 57 #[.agg #[.int .i64 a0_0, u9000_], .int .i64 a1] w fun e w' => ∃ v1_ : Value, e = .returned (.tuple #[.agg #[.int .i64 r1, v1_], .int .i64 r3]) ∧ Kd.R k92 92 w' w0.heap.size (fun k_ => (P0_1_ k_ ∨ w.heap.size ≤ k_)) v1_ r2 ∧ Below w0.heap.size w0 w' ∧ Kept w w' (fun k_ => P0_1_ k_) := by
 have hu28 := Try.underlying28
 have HO0_1 := Aside0.mk (show Kd.R k92 92 w w0.heap.size (fun k_ => (P0_1_ k_ ∨ w.heap.size ≤ k_)) u9000_ l0_1 from Kd.R_mono ho0_1 (fun k_ hk => (.inl hk)))
 have HK := Aside0.mk (Kept.refl w (fun k_ => P0_1_ k_))
 have HW0 := Aside0.mk hB.size
 have HB := Aside0.mk hB
 clear hB
 have H : (if a1 < 0 then (some (0, ([] : List (S92)), (-1))) else (some (a0_0, l0_1, a1))) = some (r1, r2, r3) := h
 clear h
 by_cases c3 : a1 < 0
 ·rw [if_pos c3] at H
  have c3b0 : decide (a1 < 0) = true := decide_eq_true c3
  clear c3
  simp only [Option.some.injEq, Prod.mk.injEq] at H
  obtain ⟨rfl, rfl, rfl⟩ := H
  obtain ⟨Ao4, co4, eo4⟩ := Kd.R_slice HO0_1.out
  subst eo4
  go_enter Try.func57, Try.ntmps57
  go_wp2_with (first | ((with_reducible refine gate_dst (N := 2) rfl ?_); refine box_event ?hg (N := 2) ?hd (cs := #[.int .i64 a0_0, .slice Ao4 l0_1.length co4]) (t := 28) ?hr ?_; (case hd => rfl); (case hg => rfl); (case hr => first | (go_simp; done) | (go_simp; rfl)); intro gb139 hg w5 hbox hb; have n0_ := Aside0.mk (Kd.R_below (rvR HO0_1.out) hb); have n1_ := Aside0.mk (Kept.below (S := (fun k_ => P0_1_ k_)) (by repeat (first | (with_reducible first | exact HK.out | apply Kept.alloc | apply Kept.drewN | apply Kept.drew) | exact HK.out)) hb); have n2_ := Aside0.mk (below_step hbB hb); have n3_ := Aside0.mk (hbox); have n4_ := Aside0.mk ((by rw [hg]; exact (by first | exact HK.out.1 | exact (show Kept w _ (fun k_ => P0_1_ k_) from by repeat (first | (with_reducible first | exact HK.out | apply Kept.alloc | apply Kept.drewN | apply Kept.drew) | exact HK.out)).1) : w.heap.size ≤ gb139)); have n5_ := Aside0.mk ((gwb hg (below_size hbB) : w0.heap.size ≤ gb139)); clear HO0_1; clear HK; clear HB; have HO0_1 := n0_; have HK := n1_; have HB := n2_; have BK139 := n3_; have GW139 := n4_; have GE139 := n5_; clear n0_ n1_ n2_ n3_ n4_ n5_; clear hb hbox hg) | ((with_reducible refine gate_dst (N := 4) rfl ?_); refine box_event ?hg (N := 4) ?hd (cs := #[.int .i64 0, .slice none 0 0]) (t := 28) ?hr ?_; (case hd => rfl); (case hg => rfl); (case hr => first | (go_simp; done) | (go_simp; rfl)); intro gb140 hg w6 hbox hb; have n0_ := Aside0.mk (Kd.R_below (rvR HO0_1.out) hb); have n1_ := Aside0.mk (blk_below (g := gb139) (o := .cells #[.int .i64 a0_0, .slice Ao4 l0_1.length co4] 28 (0, 0)) (bvK BK139.out) hb); have n2_ := Aside0.mk (Kept.below (S := (fun k_ => P0_1_ k_)) (by repeat (first | (with_reducible first | exact HK.out | apply Kept.alloc | apply Kept.drewN | apply Kept.drew | refine Kept.setCell ?_ (.inr GW139.out) _) | exact HK.out)) hb); have n3_ := Aside0.mk (below_step hbC hb); have n4_ := Aside0.mk (hbox); have n5_ := Aside0.mk ((by rw [hg]; exact (by first | exact HK.out.1 | exact (show Kept w _ (fun k_ => P0_1_ k_) from by repeat (first | (with_reducible first | exact HK.out | apply Kept.alloc | apply Kept.drewN | apply Kept.drew | refine Kept.setCell ?_ (.inr GW139.out) _) | exact HK.out)).1) : w.heap.size ≤ gb140)); have n6_ := Aside0.mk ((gwb hg (below_size hbC) : w0.heap.size ≤ gb140)); have n7_ := Aside0.mk ((by rw [hg]; exact Nat.ne_of_lt (blk_lt (g := gb139) (o := .cells #[.int .i64 a0_0, .slice Ao4 l0_1.length co4] 28 (0, 0)) (bvK BK139.out)) : gb139 ≠ gb140)); have n8_ := Aside0.mk ((by rw [hg]; exact Nat.ne_of_gt (blk_lt (g := gb139) (o := .cells #[.int .i64 a0_0, .slice Ao4 l0_1.length co4] 28 (0, 0)) (bvK BK139.out)) : gb140 ≠ gb139)); clear HO0_1; clear BK139; clear HK; clear HB; have HO0_1 := n0_; have BK139 := n1_; have HK := n2_; have HB := n3_; have BK140 := n4_; have GW140 := n5_; have GE140 := n6_; have NB139_140 := n7_; have NB140_139 := n8_; clear n0_ n1_ n2_ n3_ n4_ n5_ n6_ n7_ n8_; clear hb hbox hg; have hnb7 := NB140_139.out; have hnc7 := NB139_140.out; have hcz8_0 : w6.cell? ⟨gb140, 0, none⟩ = some (.int .i64 0) := (blk_cell BK140.out 0).trans rfl; have hcz8_1 : w6.cell? ⟨gb140, 1, none⟩ = some (.slice none 0 0) := (blk_cell BK140.out 1).trans rfl; have hfz8_0 := blk_frozen BK140.out 0; have hfz8_1 := blk_frozen BK140.out 1))
  refine bodyPost_ret (results_ct rfl _ _ gb140 28 #[.int .i64 0, .slice none 0 0] (0, 0) _ rfl (by (with_reducible repeat (first | refine blk_drewN ?_ _ | refine blk_drew ?_ | refine blk_alloc ?_ _)); refine blk_put (cs := #[.int .i64 0, .slice none 0 0]) ?_ 1 _ rfl; (with_reducible repeat (first | refine blk_drewN ?_ _ | refine blk_drew ?_ | refine blk_alloc ?_ _)); refine blk_put (cs := #[.int .i64 0, .slice none 0 0]) ?_ 0 _ rfl; (with_reducible repeat (first | refine blk_drewN ?_ _ | refine blk_drew ?_ | refine blk_alloc ?_ _)); exact BK140.out) Try.underlying28 rfl (by kernel_rfl)) rfl ?_
  exact ⟨_, ers, by first | exact Kd.R_nil _ _ _ _ _ | exact Kd.N_nil _ _ _ _ _ | exact Kd.V_nil _ _ _ _ _ | exact Kd.Q_nil _ _ _ _ _ | exact Kd.S_nil _ _ _ _ _, hbC, by repeat (first | (with_reducible first | exact HK.out | apply Kept.alloc | apply Kept.drewN | apply Kept.drew | refine Kept.setCell ?_ (.inr GW139.out) _ | refine Kept.setCell ?_ (.inr GW140.out) _) | exact HK.out)⟩
 ·rw [if_neg c3] at H
  have c3b0 : decide (a1 < 0) = false := decide_eq_false c3
  clear c3
  simp only [Option.some.injEq, Prod.mk.injEq] at H
  obtain ⟨rfl, rfl, rfl⟩ := H
  obtain ⟨Ao9, co9, eo9⟩ := Kd.R_slice HO0_1.out
  subst eo9
  go_enter Try.func57, Try.ntmps57
  go_wp2_with (first | ((with_reducible refine gate_dst (N := 2) rfl ?_); refine box_event ?hg (N := 2) ?hd (cs := #[.int .i64 a0_0, .slice Ao9 l0_1.length co9]) (t := 28) ?hr ?_; (case hd => rfl); (case hg => rfl); (case hr => first | (go_simp; done) | (go_simp; rfl)); intro gb139 hg w10 hbox hb; have n0_ := Aside0.mk (Kd.R_below (rvR HO0_1.out) hb); have n1_ := Aside0.mk (Kept.below (S := (fun k_ => P0_1_ k_)) (by repeat (first | (with_reducible first | exact HK.out | apply Kept.alloc | apply Kept.drewN | apply Kept.drew) | exact HK.out)) hb); have n2_ := Aside0.mk (below_step hbB hb); have n3_ := Aside0.mk (hbox); have n4_ := Aside0.mk ((by rw [hg]; exact (by first | exact HK.out.1 | exact (show Kept w _ (fun k_ => P0_1_ k_) from by repeat (first | (with_reducible first | exact HK.out | apply Kept.alloc | apply Kept.drewN | apply Kept.drew) | exact HK.out)).1) : w.heap.size ≤ gb139)); have n5_ := Aside0.mk ((gwb hg (below_size hbB) : w0.heap.size ≤ gb139)); clear HO0_1; clear HK; clear HB; have HO0_1 := n0_; have HK := n1_; have HB := n2_; have BK139 := n3_; have GW139 := n4_; have GE139 := n5_; clear n0_ n1_ n2_ n3_ n4_ n5_; clear hb hbox hg) | ((with_reducible refine gate_dst (N := 4) rfl ?_); refine box_event ?hg (N := 4) ?hd (cs := #[.int .i64 0, .slice none 0 0]) (t := 28) ?hr ?_; (case hd => rfl); (case hg => rfl); (case hr => first | (go_simp; done) | (go_simp; rfl)); intro gb140 hg w11 hbox hb; have n0_ := Aside0.mk (Kd.R_below (rvR HO0_1.out) hb); have n1_ := Aside0.mk (blk_below (g := gb139) (o := .cells #[.int .i64 a0_0, .slice Ao9 l0_1.length co9] 28 (0, 0)) (bvK BK139.out) hb); have n2_ := Aside0.mk (Kept.below (S := (fun k_ => P0_1_ k_)) (by repeat (first | (with_reducible first | exact HK.out | apply Kept.alloc | apply Kept.drewN | apply Kept.drew | refine Kept.setCell ?_ (.inr GW139.out) _) | exact HK.out)) hb); have n3_ := Aside0.mk (below_step hbC hb); have n4_ := Aside0.mk (hbox); have n5_ := Aside0.mk ((by rw [hg]; exact (by first | exact HK.out.1 | exact (show Kept w _ (fun k_ => P0_1_ k_) from by repeat (first | (with_reducible first | exact HK.out | apply Kept.alloc | apply Kept.drewN | apply Kept.drew | refine Kept.setCell ?_ (.inr GW139.out) _) | exact HK.out)).1) : w.heap.size ≤ gb140)); have n6_ := Aside0.mk ((gwb hg (below_size hbC) : w0.heap.size ≤ gb140)); have n7_ := Aside0.mk ((by rw [hg]; exact Nat.ne_of_lt (blk_lt (g := gb139) (o := .cells #[.int .i64 a0_0, .slice Ao9 l0_1.length co9] 28 (0, 0)) (bvK BK139.out)) : gb139 ≠ gb140)); have n8_ := Aside0.mk ((by rw [hg]; exact Nat.ne_of_gt (blk_lt (g := gb139) (o := .cells #[.int .i64 a0_0, .slice Ao9 l0_1.length co9] 28 (0, 0)) (bvK BK139.out)) : gb140 ≠ gb139)); clear HO0_1; clear BK139; clear HK; clear HB; have HO0_1 := n0_; have BK139 := n1_; have HK := n2_; have HB := n3_; have BK140 := n4_; have GW140 := n5_; have GE140 := n6_; have NB139_140 := n7_; have NB140_139 := n8_; clear n0_ n1_ n2_ n3_ n4_ n5_ n6_ n7_ n8_; clear hb hbox hg; have hnb12 := NB139_140.out; have hnc12 := NB140_139.out; have hcz13_0 : w11.cell? ⟨gb139, 0, none⟩ = some (.int .i64 a0_0) := (blk_cell BK139.out 0).trans rfl; have hcz13_1 : w11.cell? ⟨gb139, 1, none⟩ = some (.slice Ao9 l0_1.length co9) := (blk_cell BK139.out 1).trans rfl; have hfz13_0 := blk_frozen BK139.out 0; have hfz13_1 := blk_frozen BK139.out 1; have hcz14_0 : w11.cell? ⟨gb140, 0, none⟩ = some (.int .i64 0) := (blk_cell BK140.out 0).trans rfl; have hcz14_1 : w11.cell? ⟨gb140, 1, none⟩ = some (.slice none 0 0) := (blk_cell BK140.out 1).trans rfl; have hfz14_0 := blk_frozen BK140.out 0; have hfz14_1 := blk_frozen BK140.out 1))
  refine bodyPost_ret (results_ct rfl _ _ gb140 28 #[.int .i64 a0_0, .slice Ao9 l0_1.length co9] (0, 0) _ rfl (by (with_reducible repeat (first | refine blk_drewN ?_ _ | refine blk_drew ?_ | refine blk_alloc ?_ _)); refine blk_put (cs := #[.int .i64 a0_0, .slice none 0 0]) ?_ 1 _ rfl; (with_reducible repeat (first | refine blk_drewN ?_ _ | refine blk_drew ?_ | refine blk_alloc ?_ _)); refine blk_put (cs := #[.int .i64 0, .slice none 0 0]) ?_ 0 _ rfl; (with_reducible repeat (first | refine blk_drewN ?_ _ | refine blk_drew ?_ | refine blk_alloc ?_ _)); exact BK140.out) Try.underlying28 rfl (by kernel_rfl)) rfl ?_
  exact ⟨_, ers, by (with_reducible repeat (first | apply Kd.R_alloc | apply Kd.R_drewN | apply Kd.R_drew)); exact Kd.R_mono (Kd.R_far (p := ⟨gb140, 1, none⟩) (Kd.R_far (p := ⟨gb140, 0, none⟩) (Kd.R_types HO0_1.out BK140.out (by decide)) (fun _ hk => hk.2) (.int .i64 a0_0)) (fun _ hk => hk.2) (.slice Ao9 l0_1.length co9)) (fun _ hk => hk.1), hbC, by repeat (first | (with_reducible first | exact HK.out | apply Kept.alloc | apply Kept.drewN | apply Kept.drew | refine Kept.setCell ?_ (.inr GW139.out) _ | refine Kept.setCell ?_ (.inr GW140.out) _) | exact HK.out)⟩

/-! ### spec_AddPick: function 13 -/
def spec_AddPick.j0 : Nat → Int → Int → Int → Bool → Int → List (S92) → Option (Int × (List (S92)) × Int)
 | 0, _, _, _, _, _, _ => none
 | k + 1, x1, x2, x3, x32, x142000, x142001 => if x32 = true then (some (0, ([] : List (S92)), (-1))) else ((spec_l7Copy.f k x142000 x142001).bind fun bt147 => ((spec_l7Pick.f k bt147.1 bt147.2 x1 x2 x3).bind fun bt151 => ((spec_l7Told.f bt151.1 bt151.2.1 bt151.2.2).bind fun bt157 => (some (bt157.1, bt157.2.1, bt157.2.2)))))
def spec_AddPick.f (k : Nat) (a0_0 : Int) (l0_1 : List (S92)) (a1 : Int) (a2 : Int) (a3 : Int) : Option (Int × (List (S92)) × Int) := (spec_CircuitValid.f k a0_0 l0_1).bind fun t143 => (if t143 = true then ((spec_l7Edge.f a0_0 l0_1 a1).bind fun t144 => (if t144 = true then ((spec_l7Edge.f a0_0 l0_1 a2).bind fun t145 => (if t145 = true then ((spec_l7Edge.f a0_0 l0_1 a3).bind fun t146 => (spec_AddPick.j0 k a1 a2 a3 (!t146) a0_0 l0_1)) else (spec_AddPick.j0 k a1 a2 a3 true a0_0 l0_1))) else (spec_AddPick.j0 k a1 a2 a3 true a0_0 l0_1))) else (spec_AddPick.j0 k a1 a2 a3 true a0_0 l0_1))
theorem spec_AddPick.mono_l : ∀ k, (∀ y0 y1 y2 y3 y4 y5, LeO (spec_AddPick.j0 k y0 y1 y2 y3 y4 y5) (spec_AddPick.j0 (k + 1) y0 y1 y2 y3 y4 y5))
 | 0 => fun _ _ _ _ _ _ r h => by simp [spec_AddPick.j0] at h
 | k + 1 => by
  have ih0 := spec_AddPick.mono_l k
  ·intro y0 y1 y2 y3 y4 y5
   unfold spec_AddPick.j0
   repeat' first
   | (with_reducible exact ih0 _ _ _ _ _ _)
   | (with_reducible exact spec_CircuitValid.mono _ _ _)
   | (with_reducible exact spec_l7Copy.mono _ _ _)
   | (with_reducible exact spec_l7Pick.mono _ _ _ _ _ _)
   | (with_reducible exact LeO.refl _)
   | (with_reducible exact LeO.none _)
   | (with_reducible refine LeO.ite ?_ ?_)
   | (with_reducible refine LeO.bind ?_ (fun _ => ?_))
   | exact ih0 _ _ _ _ _ _
   | exact spec_CircuitValid.mono _ _ _
   | exact spec_l7Copy.mono _ _ _
   | exact spec_l7Pick.mono _ _ _ _ _ _
   | exact LeO.none _
   | refine LeO.ite ?_ ?_
   | refine LeO.bind ?_ (fun _ => ?_)
theorem spec_AddPick.mono : ∀ a0 a1 a2 a3 a4 k, LeO (spec_AddPick.f k a0 a1 a2 a3 a4) (spec_AddPick.f (k + 1) a0 a1 a2 a3 a4) := by
 intro a0 a1 a2 a3 a4 k
 have ih0 := spec_AddPick.mono_l k
 unfold spec_AddPick.f
 repeat' first
   | (with_reducible exact ih0 _ _ _ _ _ _)
   | (with_reducible exact spec_CircuitValid.mono _ _ _)
   | (with_reducible exact spec_l7Copy.mono _ _ _)
   | (with_reducible exact spec_l7Pick.mono _ _ _ _ _ _)
   | (with_reducible exact LeO.refl _)
   | (with_reducible exact LeO.none _)
   | (with_reducible refine LeO.ite ?_ ?_)
   | (with_reducible refine LeO.bind ?_ (fun _ => ?_))
   | exact ih0 _ _ _ _ _ _
   | exact spec_CircuitValid.mono _ _ _
   | exact spec_l7Copy.mono _ _ _
   | exact spec_l7Pick.mono _ _ _ _ _ _
   | exact LeO.none _
   | refine LeO.ite ?_ ?_
   | refine LeO.bind ?_ (fun _ => ?_)
set_option maxHeartbeats 8000000 in
set_option maxRecDepth 100000 in
theorem spec_AddPick.calls (k : Nat) (a0_0 : Int) (A0_1 : Option Addr) (c0_1 : Nat) (l0_1 : List (S92)) (a1 : Int) (a2 : Int) (a3 : Int) (r1 : Int) (r2 : List (S92)) (r3 : Int) (w : World) (hr0_1 : Kd.C k92 w A0_1 l0_1.length l0_1) (hc0_1 : l0_1.length ≤ c0_1) (h : spec_AddPick.f k a0_0 l0_1 a1 a2 a3 = some (r1, r2, r3)) :
  Calls Try.prog 13 #[.agg #[.int .i64 a0_0, .slice A0_1 l0_1.length c0_1], .int .i64 a1, .int .i64 a2, .int .i64 a3] w fun e w' => ∃ v1_ : Value, e = .returned (.tuple #[.agg #[.int .i64 r1, v1_], .int .i64 r3]) ∧ Kd.R k92 92 w' w.heap.size (fun _ => True) v1_ r2 ∧ Below w.heap.size w w' := by
 have hu28 := Try.underlying28
 have HR0_1 := Aside0.mk hr0_1
 have HC0_1 := Aside0.mk hc0_1
 clear hr0_1 hc0_1
 have HB := Aside0.mk (Below.refl w.heap.size w)
 have H : ((spec_CircuitValid.f k a0_0 l0_1).bind fun t143 => (if t143 = true then ((spec_l7Edge.f a0_0 l0_1 a1).bind fun t144 => (if t144 = true then ((spec_l7Edge.f a0_0 l0_1 a2).bind fun t145 => (if t145 = true then ((spec_l7Edge.f a0_0 l0_1 a3).bind fun t146 => (spec_AddPick.j0 k a1 a2 a3 (!t146) a0_0 l0_1)) else (spec_AddPick.j0 k a1 a2 a3 true a0_0 l0_1))) else (spec_AddPick.j0 k a1 a2 a3 true a0_0 l0_1))) else (spec_AddPick.j0 k a1 a2 a3 true a0_0 l0_1))) = some (r1, r2, r3) := h
 clear h
 have HC5 := Aside0.mk H
 clear H
 go_enter Try.func13, Try.ntmps13
 go_upto_region 1 with (first | ((with_reducible refine gate_dst (N := 4) rfl ?_); refine box_event ?hg (N := 4) ?hd (cs := #[.int .i64 a0_0, .slice A0_1 l0_1.length c0_1]) (t := 28) ?hr ?_; (case hd => rfl); (case hg => rfl); (case hr => first | (go_simp; done) | (go_simp; rfl)); intro gb141 hg w6 hbox hb; have n0_ := Aside0.mk (below_step hbB hb); have n1_ := Aside0.mk (hbox); have n2_ := Aside0.mk ((gwb hg (below_size hbB) : w.heap.size ≤ gb141)); have n3_ := n2_; clear HB; have HB := n0_; have BK141 := n1_; have GW141 := n2_; have GE141 := n3_; clear n0_ n1_ n2_ n3_; clear hb hbox hg) | ((with_reducible refine gate_dst (N := 8) rfl ?_); refine box_event ?hg (N := 8) ?hd (cs := #[.int .i64 0, .slice none 0 0]) (t := 28) ?hr ?_; (case hd => rfl); (case hg => rfl); (case hr => first | (go_simp; done) | (go_simp; rfl)); intro gb142 hg w7 hbox hb; have n0_ := Aside0.mk (blk_below (g := gb141) (o := .cells #[.int .i64 a0_0, .slice A0_1 l0_1.length c0_1] 28 (0, 0)) (bvK BK141.out) hb); have n1_ := Aside0.mk (below_step hbC hb); have n2_ := Aside0.mk (hbox); have n3_ := Aside0.mk ((gwb hg (below_size hbC) : w.heap.size ≤ gb142)); have n4_ := n3_; have n5_ := Aside0.mk ((by rw [hg]; exact Nat.ne_of_lt (blk_lt (g := gb141) (o := .cells #[.int .i64 a0_0, .slice A0_1 l0_1.length c0_1] 28 (0, 0)) (bvK BK141.out)) : gb141 ≠ gb142)); have n6_ := Aside0.mk ((by rw [hg]; exact Nat.ne_of_gt (blk_lt (g := gb141) (o := .cells #[.int .i64 a0_0, .slice A0_1 l0_1.length c0_1] 28 (0, 0)) (bvK BK141.out)) : gb142 ≠ gb141)); clear BK141; clear HB; have BK141 := n0_; have HB := n1_; have BK142 := n2_; have GW142 := n3_; have GE142 := n4_; have NB141_142 := n5_; have NB142_141 := n6_; clear n0_ n1_ n2_ n3_ n4_ n5_ n6_; clear hb hbox hg))
 (try simp only [Act.put, List.setIfInBounds_toArray, List.set_cons_zero, List.set_cons_succ])
 go_cut [32] (fun v32 wc => ∃ (kq : Nat) (x32_4 : Bool), v32 = .bool x32_4 ∧ Aside0 (spec_AddPick.j0 kq a1 a2 a3 x32_4 a0_0 l0_1 = some (r1, r2, r3)) ∧ Aside0 (kq ≤ k) ∧ Aside0 (wc.heap[gb141]? = some (.cells #[.int .i64 a0_0, (.slice A0_1 l0_1.length c0_1)] 28 (0, 0))) ∧ Aside0 (wc.heap[gb142]? = some (.cells #[.int .i64 0, (.slice none 0 0)] 28 (0, 0))) ∧ Aside0 (Below w.heap.size w wc))
 case first =>
  have H := HC5.out
  clear HC5
  replace H := Option.bind_eq_some_iff.mp H
  obtain ⟨t143, A80, H⟩ := H
  replace H : (if t143 = true then ((spec_l7Edge.f a0_0 l0_1 a1).bind fun t144 => (if t144 = true then ((spec_l7Edge.f a0_0 l0_1 a2).bind fun t145 => (if t145 = true then ((spec_l7Edge.f a0_0 l0_1 a3).bind fun t146 => (spec_AddPick.j0 k a1 a2 a3 (!t146) a0_0 l0_1)) else (spec_AddPick.j0 k a1 a2 a3 true a0_0 l0_1))) else (spec_AddPick.j0 k a1 a2 a3 true a0_0 l0_1))) else (spec_AddPick.j0 k a1 a2 a3 true a0_0 l0_1)) = some (r1, r2, r3) := H
  have A8 := Aside0.mk A80
  clear A80
  by_cases c9 : t143 = true
  ·subst c9
   have H1 : ((spec_l7Edge.f a0_0 l0_1 a1).bind fun t144 => (if t144 = true then ((spec_l7Edge.f a0_0 l0_1 a2).bind fun t145 => (if t145 = true then ((spec_l7Edge.f a0_0 l0_1 a3).bind fun t146 => (spec_AddPick.j0 k a1 a2 a3 (!t146) a0_0 l0_1)) else (spec_AddPick.j0 k a1 a2 a3 true a0_0 l0_1))) else (spec_AddPick.j0 k a1 a2 a3 true a0_0 l0_1))) = some (r1, r2, r3) := by rw [if_pos rfl] at H; exact H
   clear H
   have H := H1
   clear H1
   replace H := Option.bind_eq_some_iff.mp H
   obtain ⟨t144, A100, H⟩ := H
   replace H : (if t144 = true then ((spec_l7Edge.f a0_0 l0_1 a2).bind fun t145 => (if t145 = true then ((spec_l7Edge.f a0_0 l0_1 a3).bind fun t146 => (spec_AddPick.j0 k a1 a2 a3 (!t146) a0_0 l0_1)) else (spec_AddPick.j0 k a1 a2 a3 true a0_0 l0_1))) else (spec_AddPick.j0 k a1 a2 a3 true a0_0 l0_1)) = some (r1, r2, r3) := H
   have A10 := Aside0.mk A100
   clear A100
   by_cases c11 : t144 = true
   ·subst c11
    have H1 : ((spec_l7Edge.f a0_0 l0_1 a2).bind fun t145 => (if t145 = true then ((spec_l7Edge.f a0_0 l0_1 a3).bind fun t146 => (spec_AddPick.j0 k a1 a2 a3 (!t146) a0_0 l0_1)) else (spec_AddPick.j0 k a1 a2 a3 true a0_0 l0_1))) = some (r1, r2, r3) := by rw [if_pos rfl] at H; exact H
    clear H
    have H := H1
    clear H1
    replace H := Option.bind_eq_some_iff.mp H
    obtain ⟨t145, A120, H⟩ := H
    replace H : (if t145 = true then ((spec_l7Edge.f a0_0 l0_1 a3).bind fun t146 => (spec_AddPick.j0 k a1 a2 a3 (!t146) a0_0 l0_1)) else (spec_AddPick.j0 k a1 a2 a3 true a0_0 l0_1)) = some (r1, r2, r3) := H
    have A12 := Aside0.mk A120
    clear A120
    by_cases c13 : t145 = true
    ·subst c13
     have H1 : ((spec_l7Edge.f a0_0 l0_1 a3).bind fun t146 => (spec_AddPick.j0 k a1 a2 a3 (!t146) a0_0 l0_1)) = some (r1, r2, r3) := by rw [if_pos rfl] at H; exact H
     clear H
     have H := H1
     clear H1
     replace H := Option.bind_eq_some_iff.mp H
     obtain ⟨t146, A140, H⟩ := H
     replace H : (spec_AddPick.j0 k a1 a2 a3 (!t146) a0_0 l0_1) = some (r1, r2, r3) := H
     have A14 := Aside0.mk A140
     clear A140
     have H' := Aside0.mk H
     clear H
     have hnb15 := NB141_142.out
     have hnc15 := NB142_141.out
     have hcz16_0 : w7.cell? ⟨gb141, 0, none⟩ = some (.int .i64 a0_0) := (blk_cell BK141.out 0).trans rfl
     have hcz16_1 : w7.cell? ⟨gb141, 1, none⟩ = some (.slice A0_1 l0_1.length c0_1) := (blk_cell BK141.out 1).trans rfl
     have hfz16_0 := blk_frozen BK141.out 0
     have hfz16_1 := blk_frozen BK141.out 1
     go_wp2_with (first | ((with_reducible refine gate_callee (f := 53) rfl ?_); refine goesL_ (some 13) rfl rfl Try.func53 (by kernel_rfl) rfl #[.agg #[.int .i64 a0_0, .slice A0_1 l0_1.length c0_1]] rfl lmB ?_; (with_reducible refine (spec_CircuitValid.calls k a0_0 _ _ l0_1 true _ ?side1 ?side2 A8.out).mono ?_); (case side1 => exact kcR (Kd.C_below HR0_1.out HB.out)); (case side2 => exact HC0_1.out); rintro e w17 ⟨rfl, hb⟩; refine ⟨_, rfl, ?_⟩; have n0_ := Aside0.mk (blk_below (g := gb141) (o := .cells #[.int .i64 a0_0, .slice A0_1 l0_1.length c0_1] 28 (0, 0)) (bvK BK141.out) hb); have n1_ := Aside0.mk (blk_below (g := gb142) (o := .cells #[.int .i64 0, .slice none 0 0] 28 (0, 0)) (bvK BK142.out) hb); have n2_ := Aside0.mk (below_step hbC hb); clear BK141; clear BK142; clear HB; have BK141 := n0_; have BK142 := n1_; have HB := n2_; clear n0_ n1_ n2_; (try clear hb); (try clear hb2); (try clear hk); (try clear hi); have hcz18_0 : w17.cell? ⟨gb141, 0, none⟩ = some (.int .i64 a0_0) := (blk_cell BK141.out 0).trans rfl; have hcz18_1 : w17.cell? ⟨gb141, 1, none⟩ = some (.slice A0_1 l0_1.length c0_1) := (blk_cell BK141.out 1).trans rfl; have hfz18_0 := blk_frozen BK141.out 0; have hfz18_1 := blk_frozen BK141.out 1) | (go_at_call 54; (with_reducible refine (spec_l7Edge.calls a0_0 _ _ l0_1 a1 true _ ?side1 ?side2 A10.out).mono ?_); (case side1 => exact kcR (Kd.C_below HR0_1.out HB.out)); (case side2 => exact HC0_1.out); rintro e w19 ⟨rfl, hb⟩; have n0_ := Aside0.mk (blk_below (g := gb141) (o := .cells #[.int .i64 a0_0, .slice A0_1 l0_1.length c0_1] 28 (0, 0)) (bvK BK141.out) hb); have n1_ := Aside0.mk (blk_below (g := gb142) (o := .cells #[.int .i64 0, .slice none 0 0] 28 (0, 0)) (bvK BK142.out) hb); have n2_ := Aside0.mk (below_step hbC hb); clear BK141; clear BK142; clear HB; have BK141 := n0_; have BK142 := n1_; have HB := n2_; clear n0_ n1_ n2_; (try clear hb); (try clear hb2); (try clear hk); (try clear hi); have hcz20_0 : w19.cell? ⟨gb141, 0, none⟩ = some (.int .i64 a0_0) := (blk_cell BK141.out 0).trans rfl; have hcz20_1 : w19.cell? ⟨gb141, 1, none⟩ = some (.slice A0_1 l0_1.length c0_1) := (blk_cell BK141.out 1).trans rfl; have hfz20_0 := blk_frozen BK141.out 0; have hfz20_1 := blk_frozen BK141.out 1) | (go_at_call 54; (with_reducible refine (spec_l7Edge.calls a0_0 _ _ l0_1 a2 true _ ?side1 ?side2 A12.out).mono ?_); (case side1 => exact kcR (Kd.C_below HR0_1.out HB.out)); (case side2 => exact HC0_1.out); rintro e w21 ⟨rfl, hb⟩; have n0_ := Aside0.mk (blk_below (g := gb141) (o := .cells #[.int .i64 a0_0, .slice A0_1 l0_1.length c0_1] 28 (0, 0)) (bvK BK141.out) hb); have n1_ := Aside0.mk (blk_below (g := gb142) (o := .cells #[.int .i64 0, .slice none 0 0] 28 (0, 0)) (bvK BK142.out) hb); have n2_ := Aside0.mk (below_step hbC hb); clear BK141; clear BK142; clear HB; have BK141 := n0_; have BK142 := n1_; have HB := n2_; clear n0_ n1_ n2_; (try clear hb); (try clear hb2); (try clear hk); (try clear hi); have hcz22_0 : w21.cell? ⟨gb141, 0, none⟩ = some (.int .i64 a0_0) := (blk_cell BK141.out 0).trans rfl; have hcz22_1 : w21.cell? ⟨gb141, 1, none⟩ = some (.slice A0_1 l0_1.length c0_1) := (blk_cell BK141.out 1).trans rfl; have hfz22_0 := blk_frozen BK141.out 0; have hfz22_1 := blk_frozen BK141.out 1) | (go_at_call 54; (with_reducible refine (spec_l7Edge.calls a0_0 _ _ l0_1 a3 t146 _ ?side1 ?side2 A14.out).mono ?_); (case side1 => exact kcR (Kd.C_below HR0_1.out HB.out)); (case side2 => exact HC0_1.out); rintro e w23 ⟨rfl, hb⟩; have n0_ := Aside0.mk (blk_below (g := gb141) (o := .cells #[.int .i64 a0_0, .slice A0_1 l0_1.length c0_1] 28 (0, 0)) (bvK BK141.out) hb); have n1_ := Aside0.mk (blk_below (g := gb142) (o := .cells #[.int .i64 0, .slice none 0 0] 28 (0, 0)) (bvK BK142.out) hb); have n2_ := Aside0.mk (below_step hbC hb); clear BK141; clear BK142; clear HB; have BK141 := n0_; have BK142 := n1_; have HB := n2_; clear n0_ n1_ n2_; (try clear hb); (try clear hb2); (try clear hk); (try clear hi)))
     go_meet
     case rel => exact ⟨_, (!t146), rsd, H', ⟨by first | omega | exact Nat.le_refl _⟩, ⟨bvK BK141.out⟩, ⟨bvK BK142.out⟩, ⟨hbC⟩⟩
    ·replace c13 := Bool.eq_false_iff.mpr c13
     subst c13
     have H1 : (spec_AddPick.j0 k a1 a2 a3 true a0_0 l0_1) = some (r1, r2, r3) := by rw [if_neg (show ¬ (false = true) by decide)] at H; exact H
     clear H
     have H := H1
     clear H1
     have H' := Aside0.mk H
     clear H
     have hnb24 := NB141_142.out
     have hnc24 := NB142_141.out
     have hcz25_0 : w7.cell? ⟨gb141, 0, none⟩ = some (.int .i64 a0_0) := (blk_cell BK141.out 0).trans rfl
     have hcz25_1 : w7.cell? ⟨gb141, 1, none⟩ = some (.slice A0_1 l0_1.length c0_1) := (blk_cell BK141.out 1).trans rfl
     have hfz25_0 := blk_frozen BK141.out 0
     have hfz25_1 := blk_frozen BK141.out 1
     go_wp2_with (first | ((with_reducible refine gate_callee (f := 53) rfl ?_); refine goesL_ (some 13) rfl rfl Try.func53 (by kernel_rfl) rfl #[.agg #[.int .i64 a0_0, .slice A0_1 l0_1.length c0_1]] rfl lmB ?_; (with_reducible refine (spec_CircuitValid.calls k a0_0 _ _ l0_1 true _ ?side1 ?side2 A8.out).mono ?_); (case side1 => exact kcR (Kd.C_below HR0_1.out HB.out)); (case side2 => exact HC0_1.out); rintro e w26 ⟨rfl, hb⟩; refine ⟨_, rfl, ?_⟩; have n0_ := Aside0.mk (blk_below (g := gb141) (o := .cells #[.int .i64 a0_0, .slice A0_1 l0_1.length c0_1] 28 (0, 0)) (bvK BK141.out) hb); have n1_ := Aside0.mk (blk_below (g := gb142) (o := .cells #[.int .i64 0, .slice none 0 0] 28 (0, 0)) (bvK BK142.out) hb); have n2_ := Aside0.mk (below_step hbC hb); clear BK141; clear BK142; clear HB; have BK141 := n0_; have BK142 := n1_; have HB := n2_; clear n0_ n1_ n2_; (try clear hb); (try clear hb2); (try clear hk); (try clear hi); have hcz27_0 : w26.cell? ⟨gb141, 0, none⟩ = some (.int .i64 a0_0) := (blk_cell BK141.out 0).trans rfl; have hcz27_1 : w26.cell? ⟨gb141, 1, none⟩ = some (.slice A0_1 l0_1.length c0_1) := (blk_cell BK141.out 1).trans rfl; have hfz27_0 := blk_frozen BK141.out 0; have hfz27_1 := blk_frozen BK141.out 1) | (go_at_call 54; (with_reducible refine (spec_l7Edge.calls a0_0 _ _ l0_1 a1 true _ ?side1 ?side2 A10.out).mono ?_); (case side1 => exact kcR (Kd.C_below HR0_1.out HB.out)); (case side2 => exact HC0_1.out); rintro e w28 ⟨rfl, hb⟩; have n0_ := Aside0.mk (blk_below (g := gb141) (o := .cells #[.int .i64 a0_0, .slice A0_1 l0_1.length c0_1] 28 (0, 0)) (bvK BK141.out) hb); have n1_ := Aside0.mk (blk_below (g := gb142) (o := .cells #[.int .i64 0, .slice none 0 0] 28 (0, 0)) (bvK BK142.out) hb); have n2_ := Aside0.mk (below_step hbC hb); clear BK141; clear BK142; clear HB; have BK141 := n0_; have BK142 := n1_; have HB := n2_; clear n0_ n1_ n2_; (try clear hb); (try clear hb2); (try clear hk); (try clear hi); have hcz29_0 : w28.cell? ⟨gb141, 0, none⟩ = some (.int .i64 a0_0) := (blk_cell BK141.out 0).trans rfl; have hcz29_1 : w28.cell? ⟨gb141, 1, none⟩ = some (.slice A0_1 l0_1.length c0_1) := (blk_cell BK141.out 1).trans rfl; have hfz29_0 := blk_frozen BK141.out 0; have hfz29_1 := blk_frozen BK141.out 1) | (go_at_call 54; (with_reducible refine (spec_l7Edge.calls a0_0 _ _ l0_1 a2 false _ ?side1 ?side2 A12.out).mono ?_); (case side1 => exact kcR (Kd.C_below HR0_1.out HB.out)); (case side2 => exact HC0_1.out); rintro e w30 ⟨rfl, hb⟩; have n0_ := Aside0.mk (blk_below (g := gb141) (o := .cells #[.int .i64 a0_0, .slice A0_1 l0_1.length c0_1] 28 (0, 0)) (bvK BK141.out) hb); have n1_ := Aside0.mk (blk_below (g := gb142) (o := .cells #[.int .i64 0, .slice none 0 0] 28 (0, 0)) (bvK BK142.out) hb); have n2_ := Aside0.mk (below_step hbC hb); clear BK141; clear BK142; clear HB; have BK141 := n0_; have BK142 := n1_; have HB := n2_; clear n0_ n1_ n2_; (try clear hb); (try clear hb2); (try clear hk); (try clear hi)))
     go_meet
     case rel => exact ⟨_, (true), rsd, H', ⟨by first | omega | exact Nat.le_refl _⟩, ⟨bvK BK141.out⟩, ⟨bvK BK142.out⟩, ⟨hbC⟩⟩
   ·replace c11 := Bool.eq_false_iff.mpr c11
    subst c11
    have H1 : (spec_AddPick.j0 k a1 a2 a3 true a0_0 l0_1) = some (r1, r2, r3) := by rw [if_neg (show ¬ (false = true) by decide)] at H; exact H
    clear H
    have H := H1
    clear H1
    have H' := Aside0.mk H
    clear H
    have hnb31 := NB141_142.out
    have hnc31 := NB142_141.out
    have hcz32_0 : w7.cell? ⟨gb141, 0, none⟩ = some (.int .i64 a0_0) := (blk_cell BK141.out 0).trans rfl
    have hcz32_1 : w7.cell? ⟨gb141, 1, none⟩ = some (.slice A0_1 l0_1.length c0_1) := (blk_cell BK141.out 1).trans rfl
    have hfz32_0 := blk_frozen BK141.out 0
    have hfz32_1 := blk_frozen BK141.out 1
    go_wp2_with (first | ((with_reducible refine gate_callee (f := 53) rfl ?_); refine goesL_ (some 13) rfl rfl Try.func53 (by kernel_rfl) rfl #[.agg #[.int .i64 a0_0, .slice A0_1 l0_1.length c0_1]] rfl lmB ?_; (with_reducible refine (spec_CircuitValid.calls k a0_0 _ _ l0_1 true _ ?side1 ?side2 A8.out).mono ?_); (case side1 => exact kcR (Kd.C_below HR0_1.out HB.out)); (case side2 => exact HC0_1.out); rintro e w33 ⟨rfl, hb⟩; refine ⟨_, rfl, ?_⟩; have n0_ := Aside0.mk (blk_below (g := gb141) (o := .cells #[.int .i64 a0_0, .slice A0_1 l0_1.length c0_1] 28 (0, 0)) (bvK BK141.out) hb); have n1_ := Aside0.mk (blk_below (g := gb142) (o := .cells #[.int .i64 0, .slice none 0 0] 28 (0, 0)) (bvK BK142.out) hb); have n2_ := Aside0.mk (below_step hbC hb); clear BK141; clear BK142; clear HB; have BK141 := n0_; have BK142 := n1_; have HB := n2_; clear n0_ n1_ n2_; (try clear hb); (try clear hb2); (try clear hk); (try clear hi); have hcz34_0 : w33.cell? ⟨gb141, 0, none⟩ = some (.int .i64 a0_0) := (blk_cell BK141.out 0).trans rfl; have hcz34_1 : w33.cell? ⟨gb141, 1, none⟩ = some (.slice A0_1 l0_1.length c0_1) := (blk_cell BK141.out 1).trans rfl; have hfz34_0 := blk_frozen BK141.out 0; have hfz34_1 := blk_frozen BK141.out 1) | (go_at_call 54; (with_reducible refine (spec_l7Edge.calls a0_0 _ _ l0_1 a1 false _ ?side1 ?side2 A10.out).mono ?_); (case side1 => exact kcR (Kd.C_below HR0_1.out HB.out)); (case side2 => exact HC0_1.out); rintro e w35 ⟨rfl, hb⟩; have n0_ := Aside0.mk (blk_below (g := gb141) (o := .cells #[.int .i64 a0_0, .slice A0_1 l0_1.length c0_1] 28 (0, 0)) (bvK BK141.out) hb); have n1_ := Aside0.mk (blk_below (g := gb142) (o := .cells #[.int .i64 0, .slice none 0 0] 28 (0, 0)) (bvK BK142.out) hb); have n2_ := Aside0.mk (below_step hbC hb); clear BK141; clear BK142; clear HB; have BK141 := n0_; have BK142 := n1_; have HB := n2_; clear n0_ n1_ n2_; (try clear hb); (try clear hb2); (try clear hk); (try clear hi)))
    go_meet
    case rel => exact ⟨_, (true), rsd, H', ⟨by first | omega | exact Nat.le_refl _⟩, ⟨bvK BK141.out⟩, ⟨bvK BK142.out⟩, ⟨hbC⟩⟩
  ·replace c9 := Bool.eq_false_iff.mpr c9
   subst c9
   have H1 : (spec_AddPick.j0 k a1 a2 a3 true a0_0 l0_1) = some (r1, r2, r3) := by rw [if_neg (show ¬ (false = true) by decide)] at H; exact H
   clear H
   have H := H1
   clear H1
   have H' := Aside0.mk H
   clear H
   have hnb36 := NB141_142.out
   have hnc36 := NB142_141.out
   have hcz37_0 : w7.cell? ⟨gb141, 0, none⟩ = some (.int .i64 a0_0) := (blk_cell BK141.out 0).trans rfl
   have hcz37_1 : w7.cell? ⟨gb141, 1, none⟩ = some (.slice A0_1 l0_1.length c0_1) := (blk_cell BK141.out 1).trans rfl
   have hfz37_0 := blk_frozen BK141.out 0
   have hfz37_1 := blk_frozen BK141.out 1
   go_wp2_with (first | ((with_reducible refine gate_callee (f := 53) rfl ?_); refine goesL_ (some 13) rfl rfl Try.func53 (by kernel_rfl) rfl #[.agg #[.int .i64 a0_0, .slice A0_1 l0_1.length c0_1]] rfl lmB ?_; (with_reducible refine (spec_CircuitValid.calls k a0_0 _ _ l0_1 false _ ?side1 ?side2 A8.out).mono ?_); (case side1 => exact kcR (Kd.C_below HR0_1.out HB.out)); (case side2 => exact HC0_1.out); rintro e w38 ⟨rfl, hb⟩; refine ⟨_, rfl, ?_⟩; have n0_ := Aside0.mk (blk_below (g := gb141) (o := .cells #[.int .i64 a0_0, .slice A0_1 l0_1.length c0_1] 28 (0, 0)) (bvK BK141.out) hb); have n1_ := Aside0.mk (blk_below (g := gb142) (o := .cells #[.int .i64 0, .slice none 0 0] 28 (0, 0)) (bvK BK142.out) hb); have n2_ := Aside0.mk (below_step hbC hb); clear BK141; clear BK142; clear HB; have BK141 := n0_; have BK142 := n1_; have HB := n2_; clear n0_ n1_ n2_; (try clear hb); (try clear hb2); (try clear hk); (try clear hi)))
   go_meet
   case rel => exact ⟨_, (true), rsd, H', ⟨by first | omega | exact Nat.le_refl _⟩, ⟨bvK BK141.out⟩, ⟨bvK BK142.out⟩, ⟨hbC⟩⟩
 case rest =>
  clear HC5
  try clear c1
  try clear c2
  try clear p2
  try clear c3
  try clear c5
  try clear c9
  try clear c11
  try clear c13
  try clear c15
  try clear c24
  try clear c31
  try clear c36
  try clear hcz16_0
  try clear hcz16_1
  try clear hcz18_0
  try clear hcz18_1
  try clear hcz20_0
  try clear hcz20_1
  try clear hcz22_0
  try clear hcz22_1
  try clear hcz25_0
  try clear hcz25_1
  try clear hcz27_0
  try clear hcz27_1
  try clear hcz29_0
  try clear hcz29_1
  try clear hcz32_0
  try clear hcz32_1
  try clear hcz34_0
  try clear hcz34_1
  try clear hcz37_0
  try clear hcz37_1
  try clear hfz16_0
  try clear hfz16_1
  try clear hfz18_0
  try clear hfz18_1
  try clear hfz20_0
  try clear hfz20_1
  try clear hfz22_0
  try clear hfz22_1
  try clear hfz25_0
  try clear hfz25_1
  try clear hfz27_0
  try clear hfz27_1
  try clear hfz29_0
  try clear hfz29_1
  try clear hfz32_0
  try clear hfz32_1
  try clear hfz34_0
  try clear hfz34_1
  try clear hfz37_0
  try clear hfz37_1
  obtain ⟨kq, x32_4, rfl, HA, HJ4, BK141, BK142, HB⟩ := hcut
  cases kq with
  | zero => exact absurd HA.out (by simp [spec_AddPick.j0])
  | succ kj4 =>
   have H := HA.out
   clear HA
   simp only [spec_AddPick.j0] at H
   by_cases c39 : x32_4 = true
   ·subst c39
    have H1 : (some (0, ([] : List (S92)), (-1))) = some (r1, r2, r3) := by rw [if_pos rfl] at H; exact H
    clear H
    have H := H1
    clear H1
    simp only [Option.some.injEq, Prod.mk.injEq] at H
    obtain ⟨rfl, rfl, rfl⟩ := H
    have hnb40 := NB142_141.out
    have hnc40 := NB141_142.out
    have hcz41_0 : wc.cell? ⟨gb142, 0, none⟩ = some (.int .i64 0) := (blk_cell BK142.out 0).trans rfl
    have hcz41_1 : wc.cell? ⟨gb142, 1, none⟩ = some (.slice none 0 0) := (blk_cell BK142.out 1).trans rfl
    have hfz41_0 := blk_frozen BK142.out 0
    have hfz41_1 := blk_frozen BK142.out 1
    go_wp2
    refine bodyPost_ret (results_ct rfl _ _ gb142 28 #[.int .i64 0, .slice none 0 0] (0, 0) _ rfl (by (with_reducible repeat (first | refine blk_drewN ?_ _ | refine blk_drew ?_ | refine blk_alloc ?_ _)); refine blk_put (cs := #[.int .i64 0, .slice none 0 0]) ?_ 1 _ rfl; (with_reducible repeat (first | refine blk_drewN ?_ _ | refine blk_drew ?_ | refine blk_alloc ?_ _)); refine blk_put (cs := #[.int .i64 0, .slice none 0 0]) ?_ 0 _ rfl; (with_reducible repeat (first | refine blk_drewN ?_ _ | refine blk_drew ?_ | refine blk_alloc ?_ _)); exact BK142.out) Try.underlying28 rfl (by kernel_rfl)) rfl ?_
    exact ⟨_, ers, by first | exact Kd.R_nil _ _ _ _ _ | exact Kd.N_nil _ _ _ _ _ | exact Kd.V_nil _ _ _ _ _ | exact Kd.Q_nil _ _ _ _ _ | exact Kd.S_nil _ _ _ _ _, hbC⟩
   ·replace c39 := Bool.eq_false_iff.mpr c39
    subst c39
    have H1 : ((spec_l7Copy.f kj4 a0_0 l0_1).bind fun bt147 => ((spec_l7Pick.f kj4 bt147.1 bt147.2 a1 a2 a3).bind fun bt151 => ((spec_l7Told.f bt151.1 bt151.2.1 bt151.2.2).bind fun bt157 => (some (bt157.1, bt157.2.1, bt157.2.2))))) = some (r1, r2, r3) := by rw [if_neg (show ¬ (false = true) by decide)] at H; exact H
    clear H
    have H := H1
    clear H1
    replace H := Option.bind_eq_some_iff.mp H
    obtain ⟨⟨t147, t148⟩, A420, H⟩ := H
    replace H : ((spec_l7Pick.f kj4 t147 t148 a1 a2 a3).bind fun bt151 => ((spec_l7Told.f bt151.1 bt151.2.1 bt151.2.2).bind fun bt157 => (some (bt157.1, bt157.2.1, bt157.2.2)))) = some (r1, r2, r3) := H
    have A42 := Aside0.mk A420
    clear A420
    replace H := Option.bind_eq_some_iff.mp H
    obtain ⟨⟨t151, t152, t155⟩, A430, H⟩ := H
    replace H : ((spec_l7Told.f t151 t152 t155).bind fun bt157 => (some (bt157.1, bt157.2.1, bt157.2.2))) = some (r1, r2, r3) := H
    have A43 := Aside0.mk A430
    clear A430
    replace H := Option.bind_eq_some_iff.mp H
    obtain ⟨⟨t157, t158, t161⟩, A440, H⟩ := H
    replace H : (some (t157, t158, t161)) = some (r1, r2, r3) := H
    have A44 := Aside0.mk A440
    clear A440
    simp only [Option.some.injEq, Prod.mk.injEq] at H
    obtain ⟨rfl, rfl, rfl⟩ := H
    have hnb45 := NB141_142.out
    have hnc45 := NB142_141.out
    have hcz46_0 : wc.cell? ⟨gb141, 0, none⟩ = some (.int .i64 a0_0) := (blk_cell BK141.out 0).trans rfl
    have hcz46_1 : wc.cell? ⟨gb141, 1, none⟩ = some (.slice A0_1 l0_1.length c0_1) := (blk_cell BK141.out 1).trans rfl
    have hfz46_0 := blk_frozen BK141.out 0
    have hfz46_1 := blk_frozen BK141.out 1
    go_wp2_with (first | ((with_reducible refine gate_callee (f := 56) rfl ?_); refine goesL_ (some 36) rfl rfl Try.func56 (by kernel_rfl) rfl #[.agg #[.int .i64 a0_0, .slice A0_1 l0_1.length c0_1]] rfl lmB ?_; (with_reducible refine (spec_l7Copy.calls kj4 a0_0 _ _ l0_1 t147 t148 _ ?side1 ?side2 A42.out).mono ?_); (case side1 => exact kcR (Kd.C_below HR0_1.out HB.out)); (case side2 => exact HC0_1.out); rintro e w47 ⟨v149, rfl, ho0, hb⟩; refine ⟨_, rfl, ?_⟩; have n0_ := Aside0.mk (Kd.R_lower ho0 (below_size hbC)); have n1_ := Aside0.mk (blk_below (g := gb141) (o := .cells #[.int .i64 a0_0, .slice A0_1 l0_1.length c0_1] 28 (0, 0)) (bvK BK141.out) hb); have n2_ := Aside0.mk (blk_below (g := gb142) (o := .cells #[.int .i64 0, .slice none 0 0] 28 (0, 0)) (bvK BK142.out) hb); have n3_ := Aside0.mk (below_step hbC hb); clear BK141; clear BK142; clear HB; have HO150 := n0_; have BK141 := n1_; have BK142 := n2_; have HB := n3_; clear n0_ n1_ n2_ n3_; (try clear hb); (try clear hb2); (try clear hk); (try clear hi); (try clear ho0); obtain ⟨Ao48, co48, eo48⟩ := Kd.R_slice HO150.out; subst eo48) | ((with_reducible refine gate_callee (f := 55) rfl ?_); refine goesL_ (some 40) rfl rfl Try.func55 (by kernel_rfl) rfl #[.agg #[.int .i64 t147, .slice Ao48 t148.length co48], .int .i64 a1, .int .i64 a2, .int .i64 a3] rfl lmB ?_; (with_reducible refine (spec_l7Pick.calls kj4 t147 (fun k_ => some k_ = (.slice Ao48 t148.length co48 : Value).ownBlock) (.slice Ao48 t148.length co48) t148 a1 a2 a3 t151 t152 t155 w _ ?side1 ?side2 A43.out).mono ?_); (case side1 => repeat (first | (with_reducible first | exact HB.out | apply bwA | apply bwN | apply bwD | refine below_set ?_ GE141.out | refine below_set ?_ GE142.out) | exact HB.out)); (case side2 => exact Kd.R_tight rfl HO150.out); rintro e w49 ⟨v153, rfl, ho0, hb, hkp⟩; refine ⟨_, rfl, ?_⟩; have n0_ := Aside0.mk (blk_kept (bvK BK141.out) hkp (fun hs_ => (fun e_ => (Kd.R_ne HO150.out BK141.out (by decide)) e_) hs_)); have n1_ := Aside0.mk (blk_kept (bvK BK142.out) hkp (fun hs_ => (fun e_ => (Kd.R_ne HO150.out BK142.out (by decide)) e_) hs_)); have n2_ := Aside0.mk (Kd.R_mono (ok' := fun k_ => True) ho0 (fun k_ hk_ => trivial)); have n3_ := Aside0.mk (hb); clear BK141; clear BK142; clear HB; clear HO150; have BK141 := n0_; have BK142 := n1_; have HO154 := n2_; have HB := n3_; clear n0_ n1_ n2_ n3_; (try clear hb); (try clear hkp); (try clear ho0)) | ((with_reducible refine gate_dst (N := 10) rfl ?_); refine box_event ?hg (N := 10) ?hd (cs := #[.int .i64 0, .slice none 0 0]) (t := 28) ?hr ?_; (case hd => rfl); (case hg => rfl); (case hr => first | (go_simp; done) | (go_simp; rfl)); intro gb156 hg w50 hbox hb; have n0_ := Aside0.mk (Kd.R_below (rvR HO154.out) hb); have n1_ := Aside0.mk (blk_below (g := gb141) (o := .cells #[.int .i64 a0_0, .slice A0_1 l0_1.length c0_1] 28 (0, 0)) (bvK BK141.out) hb); have n2_ := Aside0.mk (blk_below (g := gb142) (o := .cells #[.int .i64 0, .slice none 0 0] 28 (0, 0)) (bvK BK142.out) hb); have n3_ := Aside0.mk (below_step hbC hb); have n4_ := Aside0.mk (hbox); have n5_ := Aside0.mk ((gwb hg (below_size hbC) : w.heap.size ≤ gb156)); have n6_ := n5_; have n7_ := Aside0.mk ((by rw [hg]; exact Nat.ne_of_lt (blk_lt (g := gb141) (o := .cells #[.int .i64 a0_0, .slice A0_1 l0_1.length c0_1] 28 (0, 0)) (bvK BK141.out)) : gb141 ≠ gb156)); have n8_ := Aside0.mk ((by rw [hg]; exact Nat.ne_of_gt (blk_lt (g := gb141) (o := .cells #[.int .i64 a0_0, .slice A0_1 l0_1.length c0_1] 28 (0, 0)) (bvK BK141.out)) : gb156 ≠ gb141)); have n9_ := Aside0.mk ((by rw [hg]; exact Nat.ne_of_lt (blk_lt (g := gb142) (o := .cells #[.int .i64 0, .slice none 0 0] 28 (0, 0)) (bvK BK142.out)) : gb142 ≠ gb156)); have n10_ := Aside0.mk ((by rw [hg]; exact Nat.ne_of_gt (blk_lt (g := gb142) (o := .cells #[.int .i64 0, .slice none 0 0] 28 (0, 0)) (bvK BK142.out)) : gb156 ≠ gb142)); clear HO154; clear BK141; clear BK142; clear HB; have HO154 := n0_; have BK141 := n1_; have BK142 := n2_; have HB := n3_; have BK156 := n4_; have GW156 := n5_; have GE156 := n6_; have NB141_156 := n7_; have NB156_141 := n8_; have NB142_156 := n9_; have NB156_142 := n10_; clear n0_ n1_ n2_ n3_ n4_ n5_ n6_ n7_ n8_ n9_ n10_; clear hb hbox hg; have hnb51 := NB156_141.out; have hnc51 := NB141_156.out; have hnb52 := NB156_142.out; have hnc52 := NB142_156.out; have hcz53_0 : w50.cell? ⟨gb156, 0, none⟩ = some (.int .i64 0) := (blk_cell BK156.out 0).trans rfl; have hcz53_1 : w50.cell? ⟨gb156, 1, none⟩ = some (.slice none 0 0) := (blk_cell BK156.out 1).trans rfl; have hfz53_0 := blk_frozen BK156.out 0; have hfz53_1 := blk_frozen BK156.out 1; obtain ⟨Ao54, co54, eo54⟩ := Kd.R_slice HO154.out; subst eo54) | ((with_reducible refine gate_store (t := 28) (p := 10) rfl ?_); refine store_event (t := 28) (p := 10) (v := ?vo_w55) (w1 := ((w50.setCell ⟨gb156, 0, none⟩ (.int .i64 t151)).setCell ⟨gb156, 1, none⟩ (.slice Ao54 t152.length co54))) ?hg ?ho ?hn ?hr ?_; (case ho => rfl); (case hg => rfl); (case hn => rfl); (case hr => first | (go_simp; done) | (go_simp; rfl)); intro w55 hw; have n0_ : Aside0 (Kd.R k92 92 w55 w.heap.size (fun _ => True) (.slice Ao54 t152.length co54) t152) := ⟨(by rw [hw]; exact (by (with_reducible repeat (first | apply Kd.R_alloc | apply Kd.R_drewN | apply Kd.R_drew)); exact Kd.R_mono (Kd.R_far (p := ⟨gb156, 1, none⟩) (Kd.R_far (p := ⟨gb156, 0, none⟩) (Kd.R_types HO154.out BK156.out (by decide)) (fun _ hk => hk.2) (.int .i64 t151)) (fun _ hk => hk.2) (.slice Ao54 t152.length co54)) (fun _ hk => trivial)))⟩; have n1_ : Aside0 (w55.heap[gb141]? = some (.cells #[.int .i64 a0_0, .slice A0_1 l0_1.length c0_1] 28 (0, 0))) := ⟨(by rw [hw]; exact (by (with_reducible repeat (first | refine blk_drewN ?_ _ | refine blk_drew ?_ | refine blk_alloc ?_ _)); refine blk_far ?_ NB141_156.out _; (with_reducible repeat (first | refine blk_drewN ?_ _ | refine blk_drew ?_ | refine blk_alloc ?_ _)); refine blk_far ?_ NB141_156.out _; (with_reducible repeat (first | refine blk_drewN ?_ _ | refine blk_drew ?_ | refine blk_alloc ?_ _)); exact BK141.out))⟩; have n2_ : Aside0 (w55.heap[gb142]? = some (.cells #[.int .i64 0, .slice none 0 0] 28 (0, 0))) := ⟨(by rw [hw]; exact (by (with_reducible repeat (first | refine blk_drewN ?_ _ | refine blk_drew ?_ | refine blk_alloc ?_ _)); refine blk_far ?_ NB142_156.out _; (with_reducible repeat (first | refine blk_drewN ?_ _ | refine blk_drew ?_ | refine blk_alloc ?_ _)); refine blk_far ?_ NB142_156.out _; (with_reducible repeat (first | refine blk_drewN ?_ _ | refine blk_drew ?_ | refine blk_alloc ?_ _)); exact BK142.out))⟩; have n3_ : Aside0 (w55.heap[gb156]? = some (.cells #[.int .i64 t151, .slice Ao54 t152.length co54] 28 (0, 0))) := ⟨(by rw [hw]; exact (by (with_reducible repeat (first | refine blk_drewN ?_ _ | refine blk_drew ?_ | refine blk_alloc ?_ _)); refine blk_put (cs := #[.int .i64 t151, .slice none 0 0]) ?_ 1 _ rfl; (with_reducible repeat (first | refine blk_drewN ?_ _ | refine blk_drew ?_ | refine blk_alloc ?_ _)); refine blk_put (cs := #[.int .i64 0, .slice none 0 0]) ?_ 0 _ rfl; (with_reducible repeat (first | refine blk_drewN ?_ _ | refine blk_drew ?_ | refine blk_alloc ?_ _)); exact BK156.out))⟩; have n4_ : Aside0 (Below w.heap.size w w55) := ⟨(by rw [hw]; exact hbC)⟩; clear hw; clear HO154; clear BK141; clear BK142; clear BK156; clear HB; have HO154 := n0_; have BK141 := n1_; have BK142 := n2_; have BK156 := n3_; have HB := n4_; clear n0_ n1_ n2_ n3_ n4_; have hcz56_0 : w55.cell? ⟨gb156, 0, none⟩ = some (.int .i64 t151) := (blk_cell BK156.out 0).trans rfl; have hcz56_1 : w55.cell? ⟨gb156, 1, none⟩ = some (.slice Ao54 t152.length co54) := (blk_cell BK156.out 1).trans rfl; have hfz56_0 := blk_frozen BK156.out 0; have hfz56_1 := blk_frozen BK156.out 1) | ((with_reducible refine gate_callee (f := 57) rfl ?_); refine goesL_ (some 45) rfl rfl Try.func57 (by kernel_rfl) rfl #[.agg #[.int .i64 t151, .slice Ao54 t152.length co54], .int .i64 t155] rfl lmB ?_; (with_reducible refine (spec_l7Told.calls t151 (fun k_ => some k_ = (.slice Ao54 t152.length co54 : Value).ownBlock) (.slice Ao54 t152.length co54) t152 t155 t157 t158 t161 w _ ?side1 ?side2 A44.out).mono ?_); (case side1 => repeat (first | (with_reducible first | exact HB.out | apply bwA | apply bwN | apply bwD | refine below_set ?_ GE141.out | refine below_set ?_ GE142.out | refine below_set ?_ GE156.out) | exact HB.out)); (case side2 => exact Kd.R_tight rfl HO154.out); rintro e w57 ⟨v159, rfl, ho0, hb, hkp⟩; refine ⟨_, rfl, ?_⟩; have n0_ := Aside0.mk (blk_kept (bvK BK141.out) hkp (fun hs_ => (fun e_ => (Kd.R_ne HO154.out BK141.out (by decide)) e_) hs_)); have n1_ := Aside0.mk (blk_kept (bvK BK142.out) hkp (fun hs_ => (fun e_ => (Kd.R_ne HO154.out BK142.out (by decide)) e_) hs_)); have n2_ := Aside0.mk (blk_kept (bvK BK156.out) hkp (fun hs_ => (fun e_ => (Kd.R_ne HO154.out BK156.out (by decide)) e_) hs_)); have n3_ := Aside0.mk (Kd.R_mono (ok' := fun k_ => True) ho0 (fun k_ hk_ => trivial)); have n4_ := Aside0.mk (hb); clear BK141; clear BK142; clear BK156; clear HB; clear HO154; have BK141 := n0_; have BK142 := n1_; have BK156 := n2_; have HO160 := n3_; have HB := n4_; clear n0_ n1_ n2_ n3_ n4_; (try clear hb); (try clear hkp); (try clear ho0); have hcz58_0 : w57.cell? ⟨gb142, 0, none⟩ = some (.int .i64 0) := (blk_cell BK142.out 0).trans rfl; have hcz58_1 : w57.cell? ⟨gb142, 1, none⟩ = some (.slice none 0 0) := (blk_cell BK142.out 1).trans rfl; have hfz58_0 := blk_frozen BK142.out 0; have hfz58_1 := blk_frozen BK142.out 1; obtain ⟨Ao59, co59, eo59⟩ := Kd.R_slice HO160.out; subst eo59))
    refine bodyPost_ret (results_ct rfl _ _ gb142 28 #[.int .i64 t157, .slice Ao59 t158.length co59] (0, 0) _ rfl (by (with_reducible repeat (first | refine blk_drewN ?_ _ | refine blk_drew ?_ | refine blk_alloc ?_ _)); refine blk_put (cs := #[.int .i64 t157, .slice none 0 0]) ?_ 1 _ rfl; (with_reducible repeat (first | refine blk_drewN ?_ _ | refine blk_drew ?_ | refine blk_alloc ?_ _)); refine blk_put (cs := #[.int .i64 0, .slice none 0 0]) ?_ 0 _ rfl; (with_reducible repeat (first | refine blk_drewN ?_ _ | refine blk_drew ?_ | refine blk_alloc ?_ _)); exact BK142.out) Try.underlying28 rfl (by kernel_rfl)) rfl ?_
    exact ⟨_, ers, by (with_reducible repeat (first | apply Kd.R_alloc | apply Kd.R_drewN | apply Kd.R_drew)); exact Kd.R_mono (Kd.R_far (p := ⟨gb142, 1, none⟩) (Kd.R_far (p := ⟨gb142, 0, none⟩) (Kd.R_types HO160.out BK142.out (by decide)) (fun _ hk => hk.2) (.int .i64 t157)) (fun _ hk => hk.2) (.slice Ao59 t158.length co59)) (fun _ hk => trivial), hbC⟩

/-! ### impl_in: function 73 -/
def impl_in.f (a0 : Int) (a1 : Int) (a2 : Int) : Option (Bool) := if a0 ≥ a1 then (some (decide (a0 ≤ a2))) else (some false)
set_option maxHeartbeats 8000000 in
set_option maxRecDepth 100000 in
theorem impl_in.calls (a0 : Int) (a1 : Int) (a2 : Int) (r : Bool) (w : World) (h : impl_in.f a0 a1 a2 = some r) :
  Calls Try.prog 73 #[.int .i64 a0, .int .i64 a1, .int .i64 a2] w fun e w' => e = .returned (.bool r) ∧ Drawn0 w w' := by
 have H : (if a0 ≥ a1 then (some (decide (a0 ≤ a2))) else (some false)) = some r := h
 clear h
 by_cases c4 : a0 ≥ a1
 ·rw [if_pos c4] at H
  have c4b0 : decide (a1 ≤ a0) = true := decide_eq_true c4
  clear c4
  obtain rfl := Option.some.inj H
  go_enter Try.func73, Try.ntmps73
  go_wp2
  go_ret
  exact ⟨by first | rfl | (simp; done) | (simp [*]; done), by repeat (first | exact Drawn0.refl _ | apply Drawn0.step)⟩
 ·rw [if_neg c4] at H
  have c4b0 : decide (a1 ≤ a0) = false := decide_eq_false c4
  clear c4
  obtain rfl := Option.some.inj H
  go_enter Try.func73, Try.ntmps73
  go_wp2
  go_ret
  exact ⟨by first | rfl | (simp; done) | (simp [*]; done), by repeat (first | exact Drawn0.refl _ | apply Drawn0.step)⟩

end Go.Proofs.Ytpcckoljocpchaa.QFnAddPick
