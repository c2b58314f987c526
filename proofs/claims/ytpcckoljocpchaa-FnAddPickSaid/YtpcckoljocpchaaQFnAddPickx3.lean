-- Written by a program of this session (mk.py). Lean checks it.
import Derived.Test.YtpcckoljocpchaaQFnAddPickx0
import Derived.Test.YtpcckoljocpchaaQFnAddPickx1
import Derived.Test.YtpcckoljocpchaaQFnAddPickx2
namespace Go.Proofs.Ytpcckoljocpchaa.QFnAddPick
open Go.RowKit Go.Proofs.YtpcckoljocpchaaW.PrintWords Go.Proofs.YtpcckoljocpchaaW.PrintLast Go.Proofs.YtpcckoljocpchaaW.PrintMore
attribute [local go_sem] max2_int min2_int max_two min_two max_three min_three max_four min_four   -- for this text's walks alone
set_option linter.unusedVariables false
set_option linter.unusedSimpArgs false

/-! ### spec_l7Or: function 106 -/
def spec_l7Or.f (k : Nat) (a0_0 : Int) (l0_1 : List (S92)) (a1 : Int) (a2 : Int) : Option (Int × (List (S92)) × Int) := (spec_l7Not.f a1).bind fun t123 => ((spec_l7Not.f a2).bind fun t124 => ((spec_l7And.f k a0_0 l0_1 t123 t124).bind fun bt125 => ((spec_l7Not.f bt125.2.2).bind fun t131 => (some (bt125.1, bt125.2.1, t131)))))
theorem spec_l7Or.mono : ∀ a0 a1 a2 a3 k, LeO (spec_l7Or.f k a0 a1 a2 a3) (spec_l7Or.f (k + 1) a0 a1 a2 a3) := by
 intro a0 a1 a2 a3 k
 unfold spec_l7Or.f
 repeat' first
   | (with_reducible exact spec_l7And.mono _ _ _ _ _)
   | (with_reducible exact LeO.refl _)
   | (with_reducible exact LeO.none _)
   | (with_reducible refine LeO.ite ?_ ?_)
   | (with_reducible refine LeO.bind ?_ (fun _ => ?_))
   | exact spec_l7And.mono _ _ _ _ _
   | exact LeO.none _
   | refine LeO.ite ?_ ?_
   | refine LeO.bind ?_ (fun _ => ?_)
def spec_l7Or.T1 : Bool × List (List Nat × List Nat) := (true, [([], []), ([], []), ([1], [1]), ([], []), ([3, 2], [3]), ([0, 2, 4, 4], [0, 2, 4]), ([5], [5]), ([6], [6]), ([6], [6]), ([], []), ([9, 7, 5, 0, 1, 2, 3, 4, 5, 6, 7, 9], [7, 9]), ([8, 10, 0, 1, 2, 3, 4, 5, 6, 7, 8, 9, 10], [8])])
def spec_l7Or.B1 : List Nat := [0, 0, 2, 0, 14, 31, 63, 127, 127, 0, 767, 2047]
theorem spec_l7Or.tab1 : rtab .any (opsOf Try.f106 1) = spec_l7Or.T1 := by kernel_rfl
theorem spec_l7Or.bits1 : waitsOk spec_l7Or.T1.2 spec_l7Or.B1 = true := by kernel_rfl
set_option maxHeartbeats 8000000 in
set_option maxRecDepth 100000 in
theorem spec_l7Or.calls (k : Nat) (a0_0 : Int) (P0_1_ : Nat → Prop) (u9000_ : Value) (l0_1 : List (S92)) (a1 : Int) (a2 : Int) (r1 : Int) (r2 : List (S92)) (r3 : Int) (w0 w : World) (hB : Below w0.heap.size w0 w) (ho0_1 : Kd.R k92 92 w w0.heap.size P0_1_ u9000_ l0_1) (h : spec_l7Or.f k a0_0 l0_1 a1 a2 = some (r1, r2, r3)) :
  Calls Try.prog 106 #[.agg #[.int .i64 a0_0, u9000_], .int .i64 a1, .int .i64 a2] w fun e w' => ∃ v1_ : Value, e = .returned (.tuple #[.agg #[.int .i64 r1, v1_], .int .i64 r3]) ∧ Kd.R k92 92 w' w0.heap.size (fun k_ => (P0_1_ k_ ∨ w.heap.size ≤ k_)) v1_ r2 ∧ Below w0.heap.size w0 w' ∧ Kept w w' (fun k_ => P0_1_ k_) := by
 have hu28 := Try.underlying28
 have HO0_1 := Aside0.mk (show Kd.R k92 92 w w0.heap.size (fun k_ => (P0_1_ k_ ∨ w.heap.size ≤ k_)) u9000_ l0_1 from Kd.R_mono ho0_1 (fun k_ hk => (.inl hk)))
 have HK := Aside0.mk (Kept.refl w (fun k_ => P0_1_ k_))
 have HW0 := Aside0.mk hB.size
 have HB := Aside0.mk hB
 clear hB
 have H : ((spec_l7Not.f a1).bind fun t123 => ((spec_l7Not.f a2).bind fun t124 => ((spec_l7And.f k a0_0 l0_1 t123 t124).bind fun bt125 => ((spec_l7Not.f bt125.2.2).bind fun t131 => (some (bt125.1, bt125.2.1, t131)))))) = some (r1, r2, r3) := h
 clear h
 replace H := Option.bind_eq_some_iff.mp H
 obtain ⟨t123, A40, H⟩ := H
 replace H : ((spec_l7Not.f a2).bind fun t124 => ((spec_l7And.f k a0_0 l0_1 t123 t124).bind fun bt125 => ((spec_l7Not.f bt125.2.2).bind fun t131 => (some (bt125.1, bt125.2.1, t131))))) = some (r1, r2, r3) := H
 have A4 := Aside0.mk A40
 clear A40
 replace H := Option.bind_eq_some_iff.mp H
 obtain ⟨t124, A50, H⟩ := H
 replace H : ((spec_l7And.f k a0_0 l0_1 t123 t124).bind fun bt125 => ((spec_l7Not.f bt125.2.2).bind fun t131 => (some (bt125.1, bt125.2.1, t131)))) = some (r1, r2, r3) := H
 have A5 := Aside0.mk A50
 clear A50
 replace H := Option.bind_eq_some_iff.mp H
 obtain ⟨⟨t125, t126, t129⟩, A60, H⟩ := H
 replace H : ((spec_l7Not.f t129).bind fun t131 => (some (t125, t126, t131))) = some (r1, r2, r3) := H
 have A6 := Aside0.mk A60
 clear A60
 replace H := Option.bind_eq_some_iff.mp H
 obtain ⟨t131, A70, H⟩ := H
 replace H : (some (t125, t126, t131)) = some (r1, r2, r3) := H
 have A7 := Aside0.mk A70
 clear A70
 simp only [Option.some.injEq, Prod.mk.injEq] at H
 obtain ⟨rfl, rfl, rfl⟩ := H
 obtain ⟨Ao8, co8, eo8⟩ := Kd.R_slice HO0_1.out
 subst eo8
 go_enter Try.func106, Try.ntmps106
 try go_wp2_with (first | ((with_reducible refine gate_dst (N := 3) rfl ?_); refine box_event ?hg (N := 3) ?hd (cs := #[.int .i64 a0_0, .slice Ao8 l0_1.length co8]) (t := 28) ?hr ?_; (case hd => rfl); (case hg => rfl); (case hr => first | (go_simp; done) | (go_simp; rfl)); intro gb121 hg w9 hbox hb; have n0_ := Aside0.mk (Kd.R_below (rvR HO0_1.out) hb); have n1_ := Aside0.mk (Kept.below (S := (fun k_ => P0_1_ k_)) (by repeat (first | (with_reducible first | exact HK.out | apply Kept.alloc | apply Kept.drewN | apply Kept.drew) | exact HK.out)) hb); have n2_ := Aside0.mk (below_step hbB hb); have n3_ := Aside0.mk (hbox); have n4_ := Aside0.mk ((by rw [hg]; exact (by first | exact HK.out.1 | exact (show Kept w _ (fun k_ => P0_1_ k_) from by repeat (first | (with_reducible first | exact HK.out | apply Kept.alloc | apply Kept.drewN | apply Kept.drew) | exact HK.out)).1) : w.heap.size ≤ gb121)); have n5_ := Aside0.mk ((gwb hg (below_size hbB) : w0.heap.size ≤ gb121)); clear HO0_1; clear HK; clear HB; have HO0_1 := n0_; have HK := n1_; have HB := n2_; have BK121 := n3_; have GW121 := n4_; have GE121 := n5_; clear n0_ n1_ n2_ n3_ n4_ n5_; clear hb hbox hg) | ((with_reducible refine gate_dst (N := 6) rfl ?_); refine box_event ?hg (N := 6) ?hd (cs := #[.int .i64 0, .slice none 0 0]) (t := 28) ?hr ?_; (case hd => rfl); (case hg => rfl); (case hr => first | (go_simp; done) | (go_simp; rfl)); intro gb122 hg w10 hbox hb; have n0_ := Aside0.mk (Kd.R_below (rvR HO0_1.out) hb); have n1_ := Aside0.mk (blk_below (g := gb121) (o := .cells #[.int .i64 a0_0, .slice Ao8 l0_1.length co8] 28 (0, 0)) (bvK BK121.out) hb); have n2_ := Aside0.mk (Kept.below (S := (fun k_ => P0_1_ k_)) (by repeat (first | (with_reducible first | exact HK.out | apply Kept.alloc | apply Kept.drewN | apply Kept.drew | refine Kept.setCell ?_ (.inr GW121.out) _) | exact HK.out)) hb); have n3_ := Aside0.mk (below_step hbC hb); have n4_ := Aside0.mk (hbox); have n5_ := Aside0.mk ((by rw [hg]; exact (by first | exact HK.out.1 | exact (show Kept w _ (fun k_ => P0_1_ k_) from by repeat (first | (with_reducible first | exact HK.out | apply Kept.alloc | apply Kept.drewN | apply Kept.drew | refine Kept.setCell ?_ (.inr GW121.out) _) | exact HK.out)).1) : w.heap.size ≤ gb122)); have n6_ := Aside0.mk ((gwb hg (below_size hbC) : w0.heap.size ≤ gb122)); have n7_ := Aside0.mk ((by rw [hg]; exact Nat.ne_of_lt (blk_lt (g := gb121) (o := .cells #[.int .i64 a0_0, .slice Ao8 l0_1.length co8] 28 (0, 0)) (bvK BK121.out)) : gb121 ≠ gb122)); have n8_ := Aside0.mk ((by rw [hg]; exact Nat.ne_of_gt (blk_lt (g := gb121) (o := .cells #[.int .i64 a0_0, .slice Ao8 l0_1.length co8] 28 (0, 0)) (bvK BK121.out)) : gb122 ≠ gb121)); clear HO0_1; clear BK121; clear HK; clear HB; have HO0_1 := n0_; have BK121 := n1_; have HK := n2_; have HB := n3_; have BK122 := n4_; have GW122 := n5_; have GE122 := n6_; have NB121_122 := n7_; have NB122_121 := n8_; clear n0_ n1_ n2_ n3_ n4_ n5_ n6_ n7_ n8_; clear hb hbox hg))
 have n0_ := Aside0.mk (Kd.R_drew HO0_1.out)
 have n1_ := Aside0.mk (blk_drew BK121.out)
 have n2_ := Aside0.mk (blk_drew BK122.out)
 have n3_ := Aside0.mk (Kept.drew HK.out)
 have n4_ := Aside0.mk (below_drew1 HB.out)
 clear HO0_1
 clear BK121
 clear BK122
 clear HK
 clear HB
 have HO0_1 := n0_
 have BK121 := n1_
 have BK122 := n2_
 have HK := n3_
 have HB := n4_
 clear n0_ n1_ n2_ n3_ n4_
 refine start_ (n := 12) (S := fun w' => w'.cell? ⟨gb121, 0, none⟩ = some (.int .i64 a0_0) ∧ w'.cell? ⟨gb121, 1, none⟩ = some (.slice Ao8 l0_1.length co8)) (ds := []) (Pt.bm 12 0) (by kernel_rfl) rfl rfl ⟨(blk_cell BK121.out 0).trans rfl, (blk_cell BK121.out 1).trans rfl⟩ (fun hHeld => ?_); refine with_tabW spec_l7Or.tab1 spec_l7Or.bits1 (fun HT_ HW_ => ?_)
 generalize w10.drew = w11 at HO0_1 BK121 BK122 HK HB hHeld ⊢
 refine Pt.pu 1 (some 12) (Pt.bm 12 2) (any_of HT_.out (by kernel_rfl)) ?_
 refine Pt.pu 3 (some 14) (Pt.bm 12 10) (any_of HT_.out (by kernel_rfl)) ?_
 refine Pt.tk 0 (some 11) (Pt.bm 12 11) rfl rfl (take_ofW HT_.out HW_.out (by kernel_rfl)) hHeld (Or.inl ⟨by rfl, by rintro w' ⟨s0, s1⟩; go_simp; with_reducible rfl⟩) ?_
 refine join_ (σ := Value × Nat) 2 (Pt.bm 12 1023) (fun s_ => [(13, .int .i64 t123), (15, .int .i64 t124), (16, .tuple #[.agg #[.int .i64 t125, s_.1], .int .i64 t129]), (8, .pointer (some ⟨s_.2, 0, none⟩)), (10, .tuple #[.agg #[.int .i64 t125, s_.1], .int .i64 t129]), (17, .agg #[.int .i64 t125, s_.1]), (18, .int .i64 t129)]) (fun s_ w' => (w'.cell? ⟨gb121, 0, none⟩ = some (.int .i64 a0_0) ∧ w'.cell? ⟨gb121, 1, none⟩ = some (.slice Ao8 l0_1.length co8)) ∧ (Kd.R k92 92 w' w0.heap.size (fun k_ => (P0_1_ k_ ∨ w.heap.size ≤ k_)) s_.1 t126) ∧ (w'.heap[gb121]? = some (.cells #[.int .i64 a0_0, .slice Ao8 l0_1.length co8] 28 (0, 0))) ∧ (w'.heap[gb122]? = some (.cells #[.int .i64 0, .slice none 0 0] 28 (0, 0))) ∧ (w'.heap[s_.2]? = some (.cells #[.int .i64 0, .slice none 0 0] 28 (0, 0))) ∧ (w.heap.size ≤ s_.2) ∧ (w0.heap.size ≤ s_.2) ∧ (gb121 ≠ s_.2) ∧ (s_.2 ≠ gb121) ∧ (gb122 ≠ s_.2) ∧ (s_.2 ≠ gb122) ∧ (Kept w w' (fun k_ => P0_1_ k_)) ∧ (Below w0.heap.size w0 w')) ?_ ?_
 rotate_left
 ·intro hCont
  refine two_ (i := 2) (j := 9) (Ni := some 13) (Nj := some 8) (Pt.bm 12 15) (Pt.bm 12 523) rfl rfl rfl rfl (two_of HT_.out (by kernel_rfl)) (by decide) (by decide) (fun K hK => ?_) (fun K hK => ?_)
  ·skip
   refine goes_ Try.func75 (by kernel_rfl) rfl #[.int .i64 a1] (by rfl) rfl rfl lmB ?_
   with_reducible refine (spec_l7Not.calls a1 t123 _ A4.out).mono ?_
   rintro e w' ⟨rfl, ⟨nd, rfl⟩⟩
   refine ⟨_, rfl, ?_⟩
   refine hK.out _ _ ⟨(blk_cell BK121.out 0).trans rfl, (blk_cell BK121.out 1).trans rfl⟩ (fun hHeld => ?_)
   clear hK K
   refine norm_ (a' := ?_) ?_ ?_
   rotate_left
   ·show Act.put _ (some 13) _ = _
    simp only [Act.put, List.setIfInBounds_toArray, List.set_cons_zero, List.set_cons_succ, i64_w, i32_w]
    rfl
   refine two_ (i := 4) (j := 9) (Ni := some 15) (Nj := some 8) (Pt.bm 12 31) (Pt.bm 12 527) rfl rfl rfl rfl (two_of HT_.out (by kernel_rfl)) (by decide) (by decide) (fun K hK => ?_) (fun K hK => ?_)
   ·skip
    refine goes_ Try.func75 (by kernel_rfl) rfl #[.int .i64 a2] (by rfl) rfl rfl lmB ?_
    with_reducible refine (spec_l7Not.calls a2 t124 _ A5.out).mono ?_
    rintro e w' ⟨rfl, ⟨nd, rfl⟩⟩
    refine ⟨_, rfl, ?_⟩
    refine hK.out _ _ ⟨(blk_cell BK121.out 0).trans rfl, (blk_cell BK121.out 1).trans rfl⟩ (fun hHeld => ?_)
    clear hK K
    refine norm_ (a' := ?_) ?_ ?_
    rotate_left
    ·show Act.put _ (some 15) _ = _
     simp only [Act.put, List.setIfInBounds_toArray, List.set_cons_zero, List.set_cons_succ, i64_w, i32_w]
     rfl
    refine two_ (i := 5) (j := 9) (Ni := some 16) (Nj := some 8) (Pt.bm 12 63) (Pt.bm 12 543) rfl rfl rfl rfl (two_of HT_.out (by kernel_rfl)) (by decide) (by decide) (fun K hK => ?_) (fun K hK => ?_)
    ·skip
     refine goes_ Try.func76 (by kernel_rfl) rfl #[.agg #[.int .i64 a0_0, .slice Ao8 l0_1.length co8], .int .i64 t123, .int .i64 t124] (by rfl) rfl rfl lmB ?_
     with_reducible refine (spec_l7And.calls k a0_0 (fun k_ => some k_ = (.slice Ao8 l0_1.length co8 : Value).ownBlock) (.slice Ao8 l0_1.length co8) l0_1 t123 t124 t125 t126 t129 w0 _ ?side1 ?side2 A6.out).mono ?_
     (case side1 => repeat (first | (with_reducible first | exact HB.out | apply bwA | apply bwN | apply bwD | refine below_set ?_ GE121.out | refine below_set ?_ GE122.out) | exact HB.out))
     (case side2 => exact Kd.R_tight rfl HO0_1.out)
     rintro e w12 ⟨v127, rfl, ho0, hb, hkp⟩
     refine ⟨_, rfl, ?_⟩
     have n0_ := Aside0.mk (blk_kept (bvK BK121.out) hkp (fun hs_ => (fun e_ => (Kd.R_ne HO0_1.out BK121.out (by decide)) e_) hs_))
     have n1_ := Aside0.mk (blk_kept (bvK BK122.out) hkp (fun hs_ => (fun e_ => (Kd.R_ne HO0_1.out BK122.out (by decide)) e_) hs_))
     have n2_ := Aside0.mk (Kd.R_mono (ok' := fun k_ => (P0_1_ k_ ∨ w.heap.size ≤ k_)) ho0 (fun k_ hk_ => Or.elim hk_ (fun hs_ => (HO0_1.out.1 k_ (hs_).symm)) (fun hn_ => (.inr (Nat.le_trans (by first | exact HK.out.1 | exact (show Kept w _ (fun k_ => P0_1_ k_) from by repeat (first | (with_reducible first | exact HK.out | apply Kept.alloc | apply Kept.drewN | apply Kept.drew | refine Kept.setCell ?_ (.inr GW121.out) _ | refine Kept.setCell ?_ (.inr GW122.out) _) | exact HK.out)).1) hn_)))))
     have n3_ := Aside0.mk (Kept.then_ (S := (fun k_ => P0_1_ k_)) (by repeat (first | (with_reducible first | exact HK.out | apply Kept.alloc | apply Kept.drewN | apply Kept.drew | refine Kept.setCell ?_ (.inr GW121.out) _ | refine Kept.setCell ?_ (.inr GW122.out) _) | exact HK.out)) hkp (fun k_ hs_ => (fun e_ => (HO0_1.out.1 k_ e_.symm)) hs_))
     have n4_ := Aside0.mk (hb)
     clear BK121
     clear BK122
     clear HK
     clear HB
     clear HO0_1
     have BK121 := n0_
     have BK122 := n1_
     have HO128 := n2_
     have HK := n3_
     have HB := n4_
     clear n0_ n1_ n2_ n3_ n4_
     (try clear hb)
     (try clear hkp)
     (try clear ho0)
     refine hK.out _ _ ⟨(blk_cell BK121.out 0).trans rfl, (blk_cell BK121.out 1).trans rfl⟩ (fun hHeld => ?_)
     clear hK K
     refine norm_ (a' := ?_) ?_ ?_
     rotate_left
     ·show Act.put _ (some 16) _ = _
      simp only [Act.put, List.setIfInBounds_toArray, List.set_cons_zero, List.set_cons_succ, i64_w, i32_w]
      rfl
     refine Pt.pu 6 (some 10) (Pt.bm 12 127) (any_of HT_.out (by kernel_rfl)) ?_
     refine Pt.pu 7 (some 17) (Pt.bm 12 255) (any_of HT_.out (by kernel_rfl)) ?_
     refine Pt.pu 8 (some 18) (Pt.bm 12 511) (any_of HT_.out (by kernel_rfl)) ?_
     refine one_ (i := 9) (N := some 8) (Pt.bm 12 1023) rfl rfl (one_of HT_.out (by kernel_rfl)) (by decide) (fun K hK => ?_)
     refine box_step ?hg (N := 8) ?hd (cs := #[.int .i64 0, .slice none 0 0]) (t := 28) ?hr ?_; (case hd => rfl); (case hg => rfl); (case hr => first | (go_simp; done) | (go_simp; rfl))
     intro gb130 hg w13 hbox hb
     have n0_ := Aside0.mk (Kd.R_below (rvR HO128.out) hb)
     have n1_ := Aside0.mk (blk_below (g := gb121) (o := .cells #[.int .i64 a0_0, .slice Ao8 l0_1.length co8] 28 (0, 0)) (bvK BK121.out) hb)
     have n2_ := Aside0.mk (blk_below (g := gb122) (o := .cells #[.int .i64 0, .slice none 0 0] 28 (0, 0)) (bvK BK122.out) hb)
     have n3_ := Aside0.mk (Kept.below (S := (fun k_ => P0_1_ k_)) (by repeat (first | (with_reducible first | exact HK.out | apply Kept.alloc | apply Kept.drewN | apply Kept.drew | refine Kept.setCell ?_ (.inr GW121.out) _ | refine Kept.setCell ?_ (.inr GW122.out) _) | exact HK.out)) hb)
     have n4_ := Aside0.mk (below_step hbC hb)
     have n5_ := Aside0.mk (hbox)
     have n6_ := Aside0.mk ((by rw [hg]; exact (by first | exact HK.out.1 | exact (show Kept w _ (fun k_ => P0_1_ k_) from by repeat (first | (with_reducible first | exact HK.out | apply Kept.alloc | apply Kept.drewN | apply Kept.drew | refine Kept.setCell ?_ (.inr GW121.out) _ | refine Kept.setCell ?_ (.inr GW122.out) _) | exact HK.out)).1) : w.heap.size ≤ gb130))
     have n7_ := Aside0.mk ((gwb hg (below_size hbC) : w0.heap.size ≤ gb130))
     have n8_ := Aside0.mk ((by rw [hg]; exact Nat.ne_of_lt (blk_lt (g := gb121) (o := .cells #[.int .i64 a0_0, .slice Ao8 l0_1.length co8] 28 (0, 0)) (bvK BK121.out)) : gb121 ≠ gb130))
     have n9_ := Aside0.mk ((by rw [hg]; exact Nat.ne_of_gt (blk_lt (g := gb121) (o := .cells #[.int .i64 a0_0, .slice Ao8 l0_1.length co8] 28 (0, 0)) (bvK BK121.out)) : gb130 ≠ gb121))
     have n10_ := Aside0.mk ((by rw [hg]; exact Nat.ne_of_lt (blk_lt (g := gb122) (o := .cells #[.int .i64 0, .slice none 0 0] 28 (0, 0)) (bvK BK122.out)) : gb122 ≠ gb130))
     have n11_ := Aside0.mk ((by rw [hg]; exact Nat.ne_of_gt (blk_lt (g := gb122) (o := .cells #[.int .i64 0, .slice none 0 0] 28 (0, 0)) (bvK BK122.out)) : gb130 ≠ gb122))
     clear HO128
     clear BK121
     clear BK122
     clear HK
     clear HB
     have HO128 := n0_
     have BK121 := n1_
     have BK122 := n2_
     have HK := n3_
     have HB := n4_
     have BK130 := n5_
     have GW130 := n6_
     have GE130 := n7_
     have NB121_130 := n8_
     have NB130_121 := n9_
     have NB122_130 := n10_
     have NB130_122 := n11_
     clear n0_ n1_ n2_ n3_ n4_ n5_ n6_ n7_ n8_ n9_ n10_ n11_
     clear hb hbox hg
     refine hK.out _ _ ⟨(blk_cell BK121.out 0).trans rfl, (blk_cell BK121.out 1).trans rfl⟩ (fun hHeld => ?_)
     clear hK K
     refine norm_ (a' := ?_) ?_ ?_
     rotate_left
     ·show Act.put _ (some 8) _ = _
      simp only [Act.put, List.setIfInBounds_toArray, List.set_cons_zero, List.set_cons_succ, i64_w, i32_w]
      rfl
     exact norm_ (by simp only [putAll, Act.put, List.setIfInBounds_toArray, List.set_cons_zero, List.set_cons_succ]) (hCont (v127, gb130) _ ⟨hHeld, (rvR HO128.out), (bvK BK121.out), (bvK BK122.out), (bvK BK130.out), GW130.out, GE130.out, NB121_130.out, NB130_121.out, NB122_130.out, NB130_122.out, (by repeat (first | (with_reducible first | exact HK.out | apply Kept.alloc | apply Kept.drewN | apply Kept.drew | refine Kept.setCell ?_ (.inr GW121.out) _ | refine Kept.setCell ?_ (.inr GW122.out) _ | refine Kept.setCell ?_ (.inr GW130.out) _) | exact HK.out)), hbC⟩)
    ·skip
     refine box_step ?hg (N := 8) ?hd (cs := #[.int .i64 0, .slice none 0 0]) (t := 28) ?hr ?_; (case hd => rfl); (case hg => rfl); (case hr => first | (go_simp; done) | (go_simp; rfl))
     intro gb130 hg w12 hbox hb
     have n0_ := Aside0.mk (Kd.R_below (rvR HO0_1.out) hb)
     have n1_ := Aside0.mk (blk_below (g := gb121) (o := .cells #[.int .i64 a0_0, .slice Ao8 l0_1.length co8] 28 (0, 0)) (bvK BK121.out) hb)
     have n2_ := Aside0.mk (blk_below (g := gb122) (o := .cells #[.int .i64 0, .slice none 0 0] 28 (0, 0)) (bvK BK122.out) hb)
     have n3_ := Aside0.mk (Kept.below (S := (fun k_ => P0_1_ k_)) (by repeat (first | (with_reducible first | exact HK.out | apply Kept.alloc | apply Kept.drewN | apply Kept.drew | refine Kept.setCell ?_ (.inr GW121.out) _ | refine Kept.setCell ?_ (.inr GW122.out) _) | exact HK.out)) hb)
     have n4_ := Aside0.mk (below_step hbC hb)
     have n5_ := Aside0.mk (hbox)
     have n6_ := Aside0.mk ((by rw [hg]; exact (by first | exact HK.out.1 | exact (show Kept w _ (fun k_ => P0_1_ k_) from by repeat (first | (with_reducible first | exact HK.out | apply Kept.alloc | apply Kept.drewN | apply Kept.drew | refine Kept.setCell ?_ (.inr GW121.out) _ | refine Kept.setCell ?_ (.inr GW122.out) _) | exact HK.out)).1) : w.heap.size ≤ gb130))
     have n7_ := Aside0.mk ((gwb hg (below_size hbC) : w0.heap.size ≤ gb130))
     have n8_ := Aside0.mk ((by rw [hg]; exact Nat.ne_of_lt (blk_lt (g := gb121) (o := .cells #[.int .i64 a0_0, .slice Ao8 l0_1.length co8] 28 (0, 0)) (bvK BK121.out)) : gb121 ≠ gb130))
     have n9_ := Aside0.mk ((by rw [hg]; exact Nat.ne_of_gt (blk_lt (g := gb121) (o := .cells #[.int .i64 a0_0, .slice Ao8 l0_1.length co8] 28 (0, 0)) (bvK BK121.out)) : gb130 ≠ gb121))
     have n10_ := Aside0.mk ((by rw [hg]; exact Nat.ne_of_lt (blk_lt (g := gb122) (o := .cells #[.int .i64 0, .slice none 0 0] 28 (0, 0)) (bvK BK122.out)) : gb122 ≠ gb130))
     have n11_ := Aside0.mk ((by rw [hg]; exact Nat.ne_of_gt (blk_lt (g := gb122) (o := .cells #[.int .i64 0, .slice none 0 0] 28 (0, 0)) (bvK BK122.out)) : gb130 ≠ gb122))
     clear HO0_1
     clear BK121
     clear BK122
     clear HK
     clear HB
     have HO0_1 := n0_
     have BK121 := n1_
     have BK122 := n2_
     have HK := n3_
     have HB := n4_
     have BK130 := n5_
     have GW130 := n6_
     have GE130 := n7_
     have NB121_130 := n8_
     have NB130_121 := n9_
     have NB122_130 := n10_
     have NB130_122 := n11_
     clear n0_ n1_ n2_ n3_ n4_ n5_ n6_ n7_ n8_ n9_ n10_ n11_
     clear hb hbox hg
     refine hK.out _ _ ⟨(blk_cell BK121.out 0).trans rfl, (blk_cell BK121.out 1).trans rfl⟩ (fun hHeld => ?_)
     clear hK K
     refine norm_ (a' := ?_) ?_ ?_
     rotate_left
     ·show Act.put _ (some 8) _ = _
      simp only [Act.put, List.setIfInBounds_toArray, List.set_cons_zero, List.set_cons_succ, i64_w, i32_w]
      rfl
     refine one_ (i := 5) (N := some 16) (Pt.bm 12 575) rfl rfl (one_of HT_.out (by kernel_rfl)) (by decide) (fun K hK => ?_)
     refine goes_ Try.func76 (by kernel_rfl) rfl #[.agg #[.int .i64 a0_0, .slice Ao8 l0_1.length co8], .int .i64 t123, .int .i64 t124] (by rfl) rfl rfl lmB ?_
     with_reducible refine (spec_l7And.calls k a0_0 (fun k_ => some k_ = (.slice Ao8 l0_1.length co8 : Value).ownBlock) (.slice Ao8 l0_1.length co8) l0_1 t123 t124 t125 t126 t129 w0 _ ?side1 ?side2 A6.out).mono ?_
     (case side1 => repeat (first | (with_reducible first | exact HB.out | apply bwA | apply bwN | apply bwD | refine below_set ?_ GE121.out | refine below_set ?_ GE122.out | refine below_set ?_ GE130.out) | exact HB.out))
     (case side2 => exact Kd.R_tight rfl HO0_1.out)
     rintro e w13 ⟨v127, rfl, ho0, hb, hkp⟩
     refine ⟨_, rfl, ?_⟩
     have n0_ := Aside0.mk (blk_kept (bvK BK121.out) hkp (fun hs_ => (fun e_ => (Kd.R_ne HO0_1.out BK121.out (by decide)) e_) hs_))
     have n1_ := Aside0.mk (blk_kept (bvK BK122.out) hkp (fun hs_ => (fun e_ => (Kd.R_ne HO0_1.out BK122.out (by decide)) e_) hs_))
     have n2_ := Aside0.mk (blk_kept (bvK BK130.out) hkp (fun hs_ => (fun e_ => (Kd.R_ne HO0_1.out BK130.out (by decide)) e_) hs_))
     have n3_ := Aside0.mk (Kd.R_mono (ok' := fun k_ => (P0_1_ k_ ∨ w.heap.size ≤ k_)) ho0 (fun k_ hk_ => Or.elim hk_ (fun hs_ => (HO0_1.out.1 k_ (hs_).symm)) (fun hn_ => (.inr (Nat.le_trans (by first | exact HK.out.1 | exact (show Kept w _ (fun k_ => P0_1_ k_) from by repeat (first | (with_reducible first | exact HK.out | apply Kept.alloc | apply Kept.drewN | apply Kept.drew | refine Kept.setCell ?_ (.inr GW121.out) _ | refine Kept.setCell ?_ (.inr GW122.out) _ | refine Kept.setCell ?_ (.inr GW130.out) _) | exact HK.out)).1) hn_)))))
     have n4_ := Aside0.mk (Kept.then_ (S := (fun k_ => P0_1_ k_)) (by repeat (first | (with_reducible first | exact HK.out | apply Kept.alloc | apply Kept.drewN | apply Kept.drew | refine Kept.setCell ?_ (.inr GW121.out) _ | refine Kept.setCell ?_ (.inr GW122.out) _ | refine Kept.setCell ?_ (.inr GW130.out) _) | exact HK.out)) hkp (fun k_ hs_ => (fun e_ => (HO0_1.out.1 k_ e_.symm)) hs_))
     have n5_ := Aside0.mk (hb)
     clear BK121
     clear BK122
     clear BK130
     clear HK
     clear HB
     clear HO0_1
     have BK121 := n0_
     have BK122 := n1_
     have BK130 := n2_
     have HO128 := n3_
     have HK := n4_
     have HB := n5_
     clear n0_ n1_ n2_ n3_ n4_ n5_
     (try clear hb)
     (try clear hkp)
     (try clear ho0)
     refine hK.out _ _ ⟨(blk_cell BK121.out 0).trans rfl, (blk_cell BK121.out 1).trans rfl⟩ (fun hHeld => ?_)
     clear hK K
     refine norm_ (a' := ?_) ?_ ?_
     rotate_left
     ·show Act.put _ (some 16) _ = _
      simp only [Act.put, List.setIfInBounds_toArray, List.set_cons_zero, List.set_cons_succ, i64_w, i32_w]
      rfl
     refine Pt.pu 6 (some 10) (Pt.bm 12 639) (any_of HT_.out (by kernel_rfl)) ?_
     refine Pt.pu 7 (some 17) (Pt.bm 12 767) (any_of HT_.out (by kernel_rfl)) ?_
     refine Pt.pu 8 (some 18) (Pt.bm 12 1023) (any_of HT_.out (by kernel_rfl)) ?_
     exact norm_ (by simp only [putAll, Act.put, List.setIfInBounds_toArray, List.set_cons_zero, List.set_cons_succ]) (hCont (v127, gb130) _ ⟨hHeld, (rvR HO128.out), (bvK BK121.out), (bvK BK122.out), (bvK BK130.out), GW130.out, GE130.out, NB121_130.out, NB130_121.out, NB122_130.out, NB130_122.out, (by repeat (first | (with_reducible first | exact HK.out | apply Kept.alloc | apply Kept.drewN | apply Kept.drew | refine Kept.setCell ?_ (.inr GW121.out) _ | refine Kept.setCell ?_ (.inr GW122.out) _ | refine Kept.setCell ?_ (.inr GW130.out) _) | exact HK.out)), hbC⟩)
   ·skip
    refine box_step ?hg (N := 8) ?hd (cs := #[.int .i64 0, .slice none 0 0]) (t := 28) ?hr ?_; (case hd => rfl); (case hg => rfl); (case hr => first | (go_simp; done) | (go_simp; rfl))
    intro gb130 hg w12 hbox hb
    have n0_ := Aside0.mk (Kd.R_below (rvR HO0_1.out) hb)
    have n1_ := Aside0.mk (blk_below (g := gb121) (o := .cells #[.int .i64 a0_0, .slice Ao8 l0_1.length co8] 28 (0, 0)) (bvK BK121.out) hb)
    have n2_ := Aside0.mk (blk_below (g := gb122) (o := .cells #[.int .i64 0, .slice none 0 0] 28 (0, 0)) (bvK BK122.out) hb)
    have n3_ := Aside0.mk (Kept.below (S := (fun k_ => P0_1_ k_)) (by repeat (first | (with_reducible first | exact HK.out | apply Kept.alloc | apply Kept.drewN | apply Kept.drew | refine Kept.setCell ?_ (.inr GW121.out) _ | refine Kept.setCell ?_ (.inr GW122.out) _) | exact HK.out)) hb)
    have n4_ := Aside0.mk (below_step hbC hb)
    have n5_ := Aside0.mk (hbox)
    have n6_ := Aside0.mk ((by rw [hg]; exact (by first | exact HK.out.1 | exact (show Kept w _ (fun k_ => P0_1_ k_) from by repeat (first | (with_reducible first | exact HK.out | apply Kept.alloc | apply Kept.drewN | apply Kept.drew | refine Kept.setCell ?_ (.inr GW121.out) _ | refine Kept.setCell ?_ (.inr GW122.out) _) | exact HK.out)).1) : w.heap.size ≤ gb130))
    have n7_ := Aside0.mk ((gwb hg (below_size hbC) : w0.heap.size ≤ gb130))
    have n8_ := Aside0.mk ((by rw [hg]; exact Nat.ne_of_lt (blk_lt (g := gb121) (o := .cells #[.int .i64 a0_0, .slice Ao8 l0_1.length co8] 28 (0, 0)) (bvK BK121.out)) : gb121 ≠ gb130))
    have n9_ := Aside0.mk ((by rw [hg]; exact Nat.ne_of_gt (blk_lt (g := gb121) (o := .cells #[.int .i64 a0_0, .slice Ao8 l0_1.length co8] 28 (0, 0)) (bvK BK121.out)) : gb130 ≠ gb121))
    have n10_ := Aside0.mk ((by rw [hg]; exact Nat.ne_of_lt (blk_lt (g := gb122) (o := .cells #[.int .i64 0, .slice none 0 0] 28 (0, 0)) (bvK BK122.out)) : gb122 ≠ gb130))
    have n11_ := Aside0.mk ((by rw [hg]; exact Nat.ne_of_gt (blk_lt (g := gb122) (o := .cells #[.int .i64 0, .slice none 0 0] 28 (0, 0)) (bvK BK122.out)) : gb130 ≠ gb122))
    clear HO0_1
    clear BK121
    clear BK122
    clear HK
    clear HB
    have HO0_1 := n0_
    have BK121 := n1_
    have BK122 := n2_
    have HK := n3_
    have HB := n4_
    have BK130 := n5_
    have GW130 := n6_
    have GE130 := n7_
    have NB121_130 := n8_
    have NB130_121 := n9_
    have NB122_130 := n10_
    have NB130_122 := n11_
    clear n0_ n1_ n2_ n3_ n4_ n5_ n6_ n7_ n8_ n9_ n10_ n11_
    clear hb hbox hg
    refine hK.out _ _ ⟨(blk_cell BK121.out 0).trans rfl, (blk_cell BK121.out 1).trans rfl⟩ (fun hHeld => ?_)
    clear hK K
    refine norm_ (a' := ?_) ?_ ?_
    rotate_left
    ·show Act.put _ (some 8) _ = _
     simp only [Act.put, List.setIfInBounds_toArray, List.set_cons_zero, List.set_cons_succ, i64_w, i32_w]
     rfl
    refine one_ (i := 4) (N := some 15) (Pt.bm 12 543) rfl rfl (one_of HT_.out (by kernel_rfl)) (by decide) (fun K hK => ?_)
    refine goes_ Try.func75 (by kernel_rfl) rfl #[.int .i64 a2] (by rfl) rfl rfl lmB ?_
    with_reducible refine (spec_l7Not.calls a2 t124 _ A5.out).mono ?_
    rintro e w' ⟨rfl, ⟨nd, rfl⟩⟩
    refine ⟨_, rfl, ?_⟩
    refine hK.out _ _ ⟨(blk_cell BK121.out 0).trans rfl, (blk_cell BK121.out 1).trans rfl⟩ (fun hHeld => ?_)
    clear hK K
    refine norm_ (a' := ?_) ?_ ?_
    rotate_left
    ·show Act.put _ (some 15) _ = _
     simp only [Act.put, List.setIfInBounds_toArray, List.set_cons_zero, List.set_cons_succ, i64_w, i32_w]
     rfl
    refine one_ (i := 5) (N := some 16) (Pt.bm 12 575) rfl rfl (one_of HT_.out (by kernel_rfl)) (by decide) (fun K hK => ?_)
    refine goes_ Try.func76 (by kernel_rfl) rfl #[.agg #[.int .i64 a0_0, .slice Ao8 l0_1.length co8], .int .i64 t123, .int .i64 t124] (by rfl) rfl rfl lmB ?_
    with_reducible refine (spec_l7And.calls k a0_0 (fun k_ => some k_ = (.slice Ao8 l0_1.length co8 : Value).ownBlock) (.slice Ao8 l0_1.length co8) l0_1 t123 t124 t125 t126 t129 w0 _ ?side1 ?side2 A6.out).mono ?_
    (case side1 => repeat (first | (with_reducible first | exact HB.out | apply bwA | apply bwN | apply bwD | refine below_set ?_ GE121.out | refine below_set ?_ GE122.out | refine below_set ?_ GE130.out) | exact HB.out))
    (case side2 => exact Kd.R_tight rfl HO0_1.out)
    rintro e w13 ⟨v127, rfl, ho0, hb, hkp⟩
    refine ⟨_, rfl, ?_⟩
    have n0_ := Aside0.mk (blk_kept (bvK BK121.out) hkp (fun hs_ => (fun e_ => (Kd.R_ne HO0_1.out BK121.out (by decide)) e_) hs_))
    have n1_ := Aside0.mk (blk_kept (bvK BK122.out) hkp (fun hs_ => (fun e_ => (Kd.R_ne HO0_1.out BK122.out (by decide)) e_) hs_))
    have n2_ := Aside0.mk (blk_kept (bvK BK130.out) hkp (fun hs_ => (fun e_ => (Kd.R_ne HO0_1.out BK130.out (by decide)) e_) hs_))
    have n3_ := Aside0.mk (Kd.R_mono (ok' := fun k_ => (P0_1_ k_ ∨ w.heap.size ≤ k_)) ho0 (fun k_ hk_ => Or.elim hk_ (fun hs_ => (HO0_1.out.1 k_ (hs_).symm)) (fun hn_ => (.inr (Nat.le_trans (by first | exact HK.out.1 | exact (show Kept w _ (fun k_ => P0_1_ k_) from by repeat (first | (with_reducible first | exact HK.out | apply Kept.alloc | apply Kept.drewN | apply Kept.drew | refine Kept.setCell ?_ (.inr GW121.out) _ | refine Kept.setCell ?_ (.inr GW122.out) _ | refine Kept.setCell ?_ (.inr GW130.out) _) | exact HK.out)).1) hn_)))))
    have n4_ := Aside0.mk (Kept.then_ (S := (fun k_ => P0_1_ k_)) (by repeat (first | (with_reducible first | exact HK.out | apply Kept.alloc | apply Kept.drewN | apply Kept.drew | refine Kept.setCell ?_ (.inr GW121.out) _ | refine Kept.setCell ?_ (.inr GW122.out) _ | refine Kept.setCell ?_ (.inr GW130.out) _) | exact HK.out)) hkp (fun k_ hs_ => (fun e_ => (HO0_1.out.1 k_ e_.symm)) hs_))
    have n5_ := Aside0.mk (hb)
    clear BK121
    clear BK122
    clear BK130
    clear HK
    clear HB
    clear HO0_1
    have BK121 := n0_
    have BK122 := n1_
    have BK130 := n2_
    have HO128 := n3_
    have HK := n4_
    have HB := n5_
    clear n0_ n1_ n2_ n3_ n4_ n5_
    (try clear hb)
    (try clear hkp)
    (try clear ho0)
    refine hK.out _ _ ⟨(blk_cell BK121.out 0).trans rfl, (blk_cell BK121.out 1).trans rfl⟩ (fun hHeld => ?_)
    clear hK K
    refine norm_ (a' := ?_) ?_ ?_
    rotate_left
    ·show Act.put _ (some 16) _ = _
     simp only [Act.put, List.setIfInBounds_toArray, List.set_cons_zero, List.set_cons_succ, i64_w, i32_w]
     rfl
    refine Pt.pu 6 (some 10) (Pt.bm 12 639) (any_of HT_.out (by kernel_rfl)) ?_
    refine Pt.pu 7 (some 17) (Pt.bm 12 767) (any_of HT_.out (by kernel_rfl)) ?_
    refine Pt.pu 8 (some 18) (Pt.bm 12 1023) (any_of HT_.out (by kernel_rfl)) ?_
    exact norm_ (by simp only [putAll, Act.put, List.setIfInBounds_toArray, List.set_cons_zero, List.set_cons_succ]) (hCont (v127, gb130) _ ⟨hHeld, (rvR HO128.out), (bvK BK121.out), (bvK BK122.out), (bvK BK130.out), GW130.out, GE130.out, NB121_130.out, NB130_121.out, NB122_130.out, NB130_122.out, (by repeat (first | (with_reducible first | exact HK.out | apply Kept.alloc | apply Kept.drewN | apply Kept.drew | refine Kept.setCell ?_ (.inr GW121.out) _ | refine Kept.setCell ?_ (.inr GW122.out) _ | refine Kept.setCell ?_ (.inr GW130.out) _) | exact HK.out)), hbC⟩)
  ·skip
   refine box_step ?hg (N := 8) ?hd (cs := #[.int .i64 0, .slice none 0 0]) (t := 28) ?hr ?_; (case hd => rfl); (case hg => rfl); (case hr => first | (go_simp; done) | (go_simp; rfl))
   intro gb130 hg w12 hbox hb
   have n0_ := Aside0.mk (Kd.R_below (rvR HO0_1.out) hb)
   have n1_ := Aside0.mk (blk_below (g := gb121) (o := .cells #[.int .i64 a0_0, .slice Ao8 l0_1.length co8] 28 (0, 0)) (bvK BK121.out) hb)
   have n2_ := Aside0.mk (blk_below (g := gb122) (o := .cells #[.int .i64 0, .slice none 0 0] 28 (0, 0)) (bvK BK122.out) hb)
   have n3_ := Aside0.mk (Kept.below (S := (fun k_ => P0_1_ k_)) (by repeat (first | (with_reducible first | exact HK.out | apply Kept.alloc | apply Kept.drewN | apply Kept.drew | refine Kept.setCell ?_ (.inr GW121.out) _ | refine Kept.setCell ?_ (.inr GW122.out) _) | exact HK.out)) hb)
   have n4_ := Aside0.mk (below_step hbC hb)
   have n5_ := Aside0.mk (hbox)
   have n6_ := Aside0.mk ((by rw [hg]; exact (by first | exact HK.out.1 | exact (show Kept w _ (fun k_ => P0_1_ k_) from by repeat (first | (with_reducible first | exact HK.out | apply Kept.alloc | apply Kept.drewN | apply Kept.drew | refine Kept.setCell ?_ (.inr GW121.out) _ | refine Kept.setCell ?_ (.inr GW122.out) _) | exact HK.out)).1) : w.heap.size ≤ gb130))
   have n7_ := Aside0.mk ((gwb hg (below_size hbC) : w0.heap.size ≤ gb130))
   have n8_ := Aside0.mk ((by rw [hg]; exact Nat.ne_of_lt (blk_lt (g := gb121) (o := .cells #[.int .i64 a0_0, .slice Ao8 l0_1.length co8] 28 (0, 0)) (bvK BK121.out)) : gb121 ≠ gb130))
   have n9_ := Aside0.mk ((by rw [hg]; exact Nat.ne_of_gt (blk_lt (g := gb121) (o := .cells #[.int .i64 a0_0, .slice Ao8 l0_1.length co8] 28 (0, 0)) (bvK BK121.out)) : gb130 ≠ gb121))
   have n10_ := Aside0.mk ((by rw [hg]; exact Nat.ne_of_lt (blk_lt (g := gb122) (o := .cells #[.int .i64 0, .slice none 0 0] 28 (0, 0)) (bvK BK122.out)) : gb122 ≠ gb130))
   have n11_ := Aside0.mk ((by rw [hg]; exact Nat.ne_of_gt (blk_lt (g := gb122) (o := .cells #[.int .i64 0, .slice none 0 0] 28 (0, 0)) (bvK BK122.out)) : gb130 ≠ gb122))
   clear HO0_1
   clear BK121
   clear BK122
   clear HK
   clear HB
   have HO0_1 := n0_
   have BK121 := n1_
   have BK122 := n2_
   have HK := n3_
   have HB := n4_
   have BK130 := n5_
   have GW130 := n6_
   have GE130 := n7_
   have NB121_130 := n8_
   have NB130_121 := n9_
   have NB122_130 := n10_
   have NB130_122 := n11_
   clear n0_ n1_ n2_ n3_ n4_ n5_ n6_ n7_ n8_ n9_ n10_ n11_
   clear hb hbox hg
   refine hK.out _ _ ⟨(blk_cell BK121.out 0).trans rfl, (blk_cell BK121.out 1).trans rfl⟩ (fun hHeld => ?_)
   clear hK K
   refine norm_ (a' := ?_) ?_ ?_
   rotate_left
   ·show Act.put _ (some 8) _ = _
    simp only [Act.put, List.setIfInBounds_toArray, List.set_cons_zero, List.set_cons_succ, i64_w, i32_w]
    rfl
   refine one_ (i := 2) (N := some 13) (Pt.bm 12 527) rfl rfl (one_of HT_.out (by kernel_rfl)) (by decide) (fun K hK => ?_)
   refine goes_ Try.func75 (by kernel_rfl) rfl #[.int .i64 a1] (by rfl) rfl rfl lmB ?_
   with_reducible refine (spec_l7Not.calls a1 t123 _ A4.out).mono ?_
   rintro e w' ⟨rfl, ⟨nd, rfl⟩⟩
   refine ⟨_, rfl, ?_⟩
   refine hK.out _ _ ⟨(blk_cell BK121.out 0).trans rfl, (blk_cell BK121.out 1).trans rfl⟩ (fun hHeld => ?_)
   clear hK K
   refine norm_ (a' := ?_) ?_ ?_
   rotate_left
   ·show Act.put _ (some 13) _ = _
    simp only [Act.put, List.setIfInBounds_toArray, List.set_cons_zero, List.set_cons_succ, i64_w, i32_w]
    rfl
   refine one_ (i := 4) (N := some 15) (Pt.bm 12 543) rfl rfl (one_of HT_.out (by kernel_rfl)) (by decide) (fun K hK => ?_)
   refine goes_ Try.func75 (by kernel_rfl) rfl #[.int .i64 a2] (by rfl) rfl rfl lmB ?_
   with_reducible refine (spec_l7Not.calls a2 t124 _ A5.out).mono ?_
   rintro e w' ⟨rfl, ⟨nd, rfl⟩⟩
   refine ⟨_, rfl, ?_⟩
   refine hK.out _ _ ⟨(blk_cell BK121.out 0).trans rfl, (blk_cell BK121.out 1).trans rfl⟩ (fun hHeld => ?_)
   clear hK K
   refine norm_ (a' := ?_) ?_ ?_
   rotate_left
   ·show Act.put _ (some 15) _ = _
    simp only [Act.put, List.setIfInBounds_toArray, List.set_cons_zero, List.set_cons_succ, i64_w, i32_w]
    rfl
   refine one_ (i := 5) (N := some 16) (Pt.bm 12 575) rfl rfl (one_of HT_.out (by kernel_rfl)) (by decide) (fun K hK => ?_)
   refine goes_ Try.func76 (by kernel_rfl) rfl #[.agg #[.int .i64 a0_0, .slice Ao8 l0_1.length co8], .int .i64 t123, .int .i64 t124] (by rfl) rfl rfl lmB ?_
   with_reducible refine (spec_l7And.calls k a0_0 (fun k_ => some k_ = (.slice Ao8 l0_1.length co8 : Value).ownBlock) (.slice Ao8 l0_1.length co8) l0_1 t123 t124 t125 t126 t129 w0 _ ?side1 ?side2 A6.out).mono ?_
   (case side1 => repeat (first | (with_reducible first | exact HB.out | apply bwA | apply bwN | apply bwD | refine below_set ?_ GE121.out | refine below_set ?_ GE122.out | refine below_set ?_ GE130.out) | exact HB.out))
   (case side2 => exact Kd.R_tight rfl HO0_1.out)
   rintro e w13 ⟨v127, rfl, ho0, hb, hkp⟩
   refine ⟨_, rfl, ?_⟩
   have n0_ := Aside0.mk (blk_kept (bvK BK121.out) hkp (fun hs_ => (fun e_ => (Kd.R_ne HO0_1.out BK121.out (by decide)) e_) hs_))
   have n1_ := Aside0.mk (blk_kept (bvK BK122.out) hkp (fun hs_ => (fun e_ => (Kd.R_ne HO0_1.out BK122.out (by decide)) e_) hs_))
   have n2_ := Aside0.mk (blk_kept (bvK BK130.out) hkp (fun hs_ => (fun e_ => (Kd.R_ne HO0_1.out BK130.out (by decide)) e_) hs_))
   have n3_ := Aside0.mk (Kd.R_mono (ok' := fun k_ => (P0_1_ k_ ∨ w.heap.size ≤ k_)) ho0 (fun k_ hk_ => Or.elim hk_ (fun hs_ => (HO0_1.out.1 k_ (hs_).symm)) (fun hn_ => (.inr (Nat.le_trans (by first | exact HK.out.1 | exact (show Kept w _ (fun k_ => P0_1_ k_) from by repeat (first | (with_reducible first | exact HK.out | apply Kept.alloc | apply Kept.drewN | apply Kept.drew | refine Kept.setCell ?_ (.inr GW121.out) _ | refine Kept.setCell ?_ (.inr GW122.out) _ | refine Kept.setCell ?_ (.inr GW130.out) _) | exact HK.out)).1) hn_)))))
   have n4_ := Aside0.mk (Kept.then_ (S := (fun k_ => P0_1_ k_)) (by repeat (first | (with_reducible first | exact HK.out | apply Kept.alloc | apply Kept.drewN | apply Kept.drew | refine Kept.setCell ?_ (.inr GW121.out) _ | refine Kept.setCell ?_ (.inr GW122.out) _ | refine Kept.setCell ?_ (.inr GW130.out) _) | exact HK.out)) hkp (fun k_ hs_ => (fun e_ => (HO0_1.out.1 k_ e_.symm)) hs_))
   have n5_ := Aside0.mk (hb)
   clear BK121
   clear BK122
   clear BK130
   clear HK
   clear HB
   clear HO0_1
   have BK121 := n0_
   have BK122 := n1_
   have BK130 := n2_
   have HO128 := n3_
   have HK := n4_
   have HB := n5_
   clear n0_ n1_ n2_ n3_ n4_ n5_
   (try clear hb)
   (try clear hkp)
   (try clear ho0)
   refine hK.out _ _ ⟨(blk_cell BK121.out 0).trans rfl, (blk_cell BK121.out 1).trans rfl⟩ (fun hHeld => ?_)
   clear hK K
   refine norm_ (a' := ?_) ?_ ?_
   rotate_left
   ·show Act.put _ (some 16) _ = _
    simp only [Act.put, List.setIfInBounds_toArray, List.set_cons_zero, List.set_cons_succ, i64_w, i32_w]
    rfl
   refine Pt.pu 6 (some 10) (Pt.bm 12 639) (any_of HT_.out (by kernel_rfl)) ?_
   refine Pt.pu 7 (some 17) (Pt.bm 12 767) (any_of HT_.out (by kernel_rfl)) ?_
   refine Pt.pu 8 (some 18) (Pt.bm 12 1023) (any_of HT_.out (by kernel_rfl)) ?_
   exact norm_ (by simp only [putAll, Act.put, List.setIfInBounds_toArray, List.set_cons_zero, List.set_cons_succ]) (hCont (v127, gb130) _ ⟨hHeld, (rvR HO128.out), (bvK BK121.out), (bvK BK122.out), (bvK BK130.out), GW130.out, GE130.out, NB121_130.out, NB130_121.out, NB122_130.out, NB130_122.out, (by repeat (first | (with_reducible first | exact HK.out | apply Kept.alloc | apply Kept.drewN | apply Kept.drew | refine Kept.setCell ?_ (.inr GW121.out) _ | refine Kept.setCell ?_ (.inr GW122.out) _ | refine Kept.setCell ?_ (.inr GW130.out) _) | exact HK.out)), hbC⟩)
 rintro ⟨v127, gb130⟩ w14 ⟨hS_, h0_, h1_, h2_, h3_, h4_, h5_, h6_, h7_, h8_, h9_, h10_, h11_⟩
 have n0_ : Aside0 (Kd.R k92 92 w14 w0.heap.size (fun k_ => (P0_1_ k_ ∨ w.heap.size ≤ k_)) v127 t126) := ⟨h0_⟩
 have n1_ : Aside0 (w14.heap[gb121]? = some (.cells #[.int .i64 a0_0, .slice Ao8 l0_1.length co8] 28 (0, 0))) := ⟨h1_⟩
 have n2_ : Aside0 (w14.heap[gb122]? = some (.cells #[.int .i64 0, .slice none 0 0] 28 (0, 0))) := ⟨h2_⟩
 have n3_ : Aside0 (w14.heap[gb130]? = some (.cells #[.int .i64 0, .slice none 0 0] 28 (0, 0))) := ⟨h3_⟩
 have n4_ : Aside0 (w.heap.size ≤ gb130) := ⟨h4_⟩
 have n5_ : Aside0 (w0.heap.size ≤ gb130) := ⟨h5_⟩
 have n6_ : Aside0 (gb121 ≠ gb130) := ⟨h6_⟩
 have n7_ : Aside0 (gb130 ≠ gb121) := ⟨h7_⟩
 have n8_ : Aside0 (gb122 ≠ gb130) := ⟨h8_⟩
 have n9_ : Aside0 (gb130 ≠ gb122) := ⟨h9_⟩
 have n10_ : Aside0 (Kept w w14 (fun k_ => P0_1_ k_)) := ⟨h10_⟩
 have n11_ : Aside0 (Below w0.heap.size w0 w14) := ⟨h11_⟩
 clear HO0_1
 clear BK121
 clear BK122
 clear HK
 clear HB
 clear h0_ h1_ h2_ h3_ h4_ h5_ h6_ h7_ h8_ h9_ h10_ h11_
 have HO128 := n0_
 have BK121 := n1_
 have BK122 := n2_
 have BK130 := n3_
 have GW130 := n4_
 have GE130 := n5_
 have NB121_130 := n6_
 have NB130_121 := n7_
 have NB122_130 := n8_
 have NB130_122 := n9_
 have HK := n10_
 have HB := n11_
 clear n0_ n1_ n2_ n3_ n4_ n5_ n6_ n7_ n8_ n9_ n10_ n11_
 have hHeld : w14.cell? ⟨gb121, 0, none⟩ = some (.int .i64 a0_0) ∧ w14.cell? ⟨gb121, 1, none⟩ = some (.slice Ao8 l0_1.length co8) := hS_
 obtain ⟨Ao16, co16, eo16⟩ := Kd.R_slice HO128.out
 (first | subst eo16 | (injection eo16 with f1_ f2_ f3_; have f4_ := f1_.symm; have f5_ := f3_.symm; clear f1_ f2_ f3_; subst f4_; subst f5_))
 refine norm_ (a' := ?_) ?_ ?_
 rotate_left
 ·simp only [putAll, Act.put, List.setIfInBounds_toArray, List.set_cons_zero, List.set_cons_succ]
  rfl
 refine one_ (i := 10) (N := none) (Pt.bm 12 2047) rfl rfl (one_of HT_.out (by kernel_rfl)) (by decide) (fun K hK => ?_)
 have hs15 : w14.cell? ⟨gb130, 0, none⟩ = some (.int .i64 0) := (blk_cell BK130.out 0).trans rfl
 have hfs15 := blk_frozen BK130.out 0
 have hns15_0 := NB121_130.out
 have hns15_1 := NB122_130.out
 have hms15_0 := NB130_121.out
 have hms15_1 := NB130_122.out
 have hs17 : w14.cell? ⟨gb130, 1, none⟩ = some (.slice none 0 0) := (blk_cell BK130.out 1).trans rfl
 have hfs17 := blk_frozen BK130.out 1
 have hns17_0 := NB121_130.out
 have hns17_1 := NB122_130.out
 have hms17_0 := NB130_121.out
 have hms17_1 := NB130_122.out
 refine skip_ (w1 := ?_) (by rfl) rfl ?_ ?_
 rotate_left
 ·go_simp
  rfl
 refine hK.out _ _ ⟨((cell_far (p := ⟨gb130, _, none⟩) NB121_130.out _).trans (((cell_far (p := ⟨gb130, _, none⟩) NB121_130.out _).trans (hHeld.1)))), ((cell_far (p := ⟨gb130, _, none⟩) NB121_130.out _).trans (((cell_far (p := ⟨gb130, _, none⟩) NB121_130.out _).trans (hHeld.2))))⟩ (fun hHeld => ?_)
 clear hK K
 refine Pt.pu 11 (some 9) (Pt.bm 12 4095) (any_of HT_.out (by kernel_rfl)) ?_
 refine done_ (done_of HT_.out (by kernel_rfl)) ?_
 try go_wp2
 have n0_ : Aside0 (Kd.R k92 92 ((w14.setCell ⟨gb130, 0, none⟩ (.int .i64 t125)).setCell ⟨gb130, 1, none⟩ (.slice Ao16 t126.length co16)) w0.heap.size (fun k_ => (P0_1_ k_ ∨ w.heap.size ≤ k_)) (.slice Ao16 t126.length co16) t126) := ⟨by (with_reducible repeat (first | apply Kd.R_alloc | apply Kd.R_drewN | apply Kd.R_drew)); exact Kd.R_mono (Kd.R_far (p := ⟨gb130, 1, none⟩) (Kd.R_far (p := ⟨gb130, 0, none⟩) (Kd.R_types HO128.out BK130.out (by decide)) (fun _ hk => hk.2) (.int .i64 t125)) (fun _ hk => hk.2) (.slice Ao16 t126.length co16)) (fun _ hk => hk.1)⟩
 have n1_ : Aside0 (((w14.setCell ⟨gb130, 0, none⟩ (.int .i64 t125)).setCell ⟨gb130, 1, none⟩ (.slice Ao16 t126.length co16)).heap[gb121]? = some (.cells #[.int .i64 a0_0, .slice Ao8 l0_1.length co8] 28 (0, 0))) := ⟨by (with_reducible repeat (first | refine blk_drewN ?_ _ | refine blk_drew ?_ | refine blk_alloc ?_ _)); refine blk_far ?_ NB121_130.out _; (with_reducible repeat (first | refine blk_drewN ?_ _ | refine blk_drew ?_ | refine blk_alloc ?_ _)); refine blk_far ?_ NB121_130.out _; (with_reducible repeat (first | refine blk_drewN ?_ _ | refine blk_drew ?_ | refine blk_alloc ?_ _)); exact BK121.out⟩
 have n2_ : Aside0 (((w14.setCell ⟨gb130, 0, none⟩ (.int .i64 t125)).setCell ⟨gb130, 1, none⟩ (.slice Ao16 t126.length co16)).heap[gb122]? = some (.cells #[.int .i64 0, .slice none 0 0] 28 (0, 0))) := ⟨by (with_reducible repeat (first | refine blk_drewN ?_ _ | refine blk_drew ?_ | refine blk_alloc ?_ _)); refine blk_far ?_ NB122_130.out _; (with_reducible repeat (first | refine blk_drewN ?_ _ | refine blk_drew ?_ | refine blk_alloc ?_ _)); refine blk_far ?_ NB122_130.out _; (with_reducible repeat (first | refine blk_drewN ?_ _ | refine blk_drew ?_ | refine blk_alloc ?_ _)); exact BK122.out⟩
 have n3_ : Aside0 (((w14.setCell ⟨gb130, 0, none⟩ (.int .i64 t125)).setCell ⟨gb130, 1, none⟩ (.slice Ao16 t126.length co16)).heap[gb130]? = some (.cells #[.int .i64 t125, .slice Ao16 t126.length co16] 28 (0, 0))) := ⟨by (with_reducible repeat (first | refine blk_drewN ?_ _ | refine blk_drew ?_ | refine blk_alloc ?_ _)); refine blk_put (cs := #[.int .i64 t125, .slice none 0 0]) ?_ 1 _ rfl; (with_reducible repeat (first | refine blk_drewN ?_ _ | refine blk_drew ?_ | refine blk_alloc ?_ _)); refine blk_put (cs := #[.int .i64 0, .slice none 0 0]) ?_ 0 _ rfl; (with_reducible repeat (first | refine blk_drewN ?_ _ | refine blk_drew ?_ | refine blk_alloc ?_ _)); exact BK130.out⟩
 have n4_ : Aside0 (Kept w ((w14.setCell ⟨gb130, 0, none⟩ (.int .i64 t125)).setCell ⟨gb130, 1, none⟩ (.slice Ao16 t126.length co16)) (fun k_ => P0_1_ k_)) := ⟨by repeat (first | (with_reducible first | exact HK.out | apply Kept.alloc | apply Kept.drewN | apply Kept.drew | refine Kept.setCell ?_ (.inr GW121.out) _ | refine Kept.setCell ?_ (.inr GW122.out) _ | refine Kept.setCell ?_ (.inr GW130.out) _) | exact HK.out)⟩
 have n5_ : Aside0 (Below w0.heap.size w0 ((w14.setCell ⟨gb130, 0, none⟩ (.int .i64 t125)).setCell ⟨gb130, 1, none⟩ (.slice Ao16 t126.length co16))) := ⟨hbC⟩
 (try clear HO128)
 (try clear BK121)
 (try clear BK122)
 (try clear BK130)
 (try clear HK)
 (try clear HB)
 generalize ((w14.setCell ⟨gb130, 0, none⟩ (.int .i64 t125)).setCell ⟨gb130, 1, none⟩ (.slice Ao16 t126.length co16)) = w18 at n0_ n1_ n2_ n3_ n4_ n5_ ⊢
 have HO128 := n0_
 have BK121 := n1_
 have BK122 := n2_
 have BK130 := n3_
 have HK := n4_
 have HB := n5_
 clear n0_ n1_ n2_ n3_ n4_ n5_
 have n0_ := Aside0.mk (Kd.R_drew HO128.out)
 have n1_ := Aside0.mk (blk_drew BK121.out)
 have n2_ := Aside0.mk (blk_drew BK122.out)
 have n3_ := Aside0.mk (blk_drew BK130.out)
 have n4_ := Aside0.mk (Kept.drew HK.out)
 have n5_ := Aside0.mk (below_drew1 HB.out)
 clear HO128
 clear BK121
 clear BK122
 clear BK130
 clear HK
 clear HB
 have HO128 := n0_
 have BK121 := n1_
 have BK122 := n2_
 have BK130 := n3_
 have HK := n4_
 have HB := n5_
 clear n0_ n1_ n2_ n3_ n4_ n5_
 refine start_ (n := 5) (S := fun w' => w'.cell? ⟨gb130, 0, none⟩ = some (.int .i64 t125) ∧ w'.cell? ⟨gb130, 1, none⟩ = some (.slice Ao16 t126.length co16)) (ds := []) (Pt.bm 5 0) (by kernel_rfl) rfl rfl ⟨(blk_cell BK130.out 0).trans rfl, (blk_cell BK130.out 1).trans rfl⟩ (fun hHeld => ?_)
 generalize w18.drew = w19 at HO128 BK121 BK122 BK130 HK HB hHeld ⊢
 refine Pt.pu 1 (some 20) (Pt.bm 5 2) (by kernel_rfl) ?_
 refine Pt.tk 0 (some 19) (Pt.bm 5 3) rfl rfl (by kernel_rfl) hHeld (Or.inl ⟨by rfl, by rintro w' ⟨s0, s1⟩; go_simp; with_reducible rfl⟩) ?_
 refine one_ (i := 2) (N := some 21) (Pt.bm 5 7) rfl rfl (by kernel_rfl) (by decide) (fun K hK => ?_)
 refine goes_ Try.func75 (by kernel_rfl) rfl #[.int .i64 t129] (by rfl) rfl rfl lmB ?_
 with_reducible refine (spec_l7Not.calls t129 t131 _ A7.out).mono ?_
 rintro e w' ⟨rfl, ⟨nd, rfl⟩⟩
 refine ⟨_, rfl, ?_⟩
 refine hK.out _ _ ⟨(blk_cell BK130.out 0).trans rfl, (blk_cell BK130.out 1).trans rfl⟩ (fun hHeld => ?_)
 clear hK K
 refine norm_ (a' := ?_) ?_ ?_
 rotate_left
 ·show Act.put _ (some 21) _ = _
  simp only [Act.put, List.setIfInBounds_toArray, List.set_cons_zero, List.set_cons_succ, i64_w, i32_w]
  rfl
 refine one_ (i := 3) (N := none) (Pt.bm 5 15) rfl rfl (by kernel_rfl) (by decide) (fun K hK => ?_)
 have hs20 : w19.cell? ⟨gb122, 0, none⟩ = some (.int .i64 0) := (blk_cell BK122.out 0).trans rfl
 have hfs20 := blk_frozen BK122.out 0
 have hns20_0 := NB121_122.out
 have hns20_2 := NB130_122.out
 have hms20_0 := NB122_121.out
 have hms20_2 := NB122_130.out
 have hs21 : w19.cell? ⟨gb122, 1, none⟩ = some (.slice none 0 0) := (blk_cell BK122.out 1).trans rfl
 have hfs21 := blk_frozen BK122.out 1
 have hns21_0 := NB121_122.out
 have hns21_2 := NB130_122.out
 have hms21_0 := NB122_121.out
 have hms21_2 := NB122_130.out
 refine skip_ (w1 := ?_) (by rfl) rfl ?_ ?_
 rotate_left
 ·go_simp
  rfl
 refine hK.out _ _ ⟨((cell_far (p := ⟨gb122, _, none⟩) NB130_122.out _).trans (((cell_far (p := ⟨gb122, _, none⟩) NB130_122.out _).trans (hHeld.1)))), ((cell_far (p := ⟨gb122, _, none⟩) NB130_122.out _).trans (((cell_far (p := ⟨gb122, _, none⟩) NB130_122.out _).trans (hHeld.2))))⟩ (fun hHeld => ?_)
 clear hK K
 refine Pt.pu 4 (some 7) (Pt.bm 5 31) (by kernel_rfl) ?_
 refine done_ (by kernel_rfl) ?_
 try go_wp2
 refine bodyPost_ret (results_ct rfl _ _ gb122 28 #[.int .i64 t125, .slice Ao16 t126.length co16] (0, 0) _ rfl (by (with_reducible repeat (first | refine blk_drewN ?_ _ | refine blk_drew ?_ | refine blk_alloc ?_ _)); refine blk_put (cs := #[.int .i64 t125, .slice none 0 0]) ?_ 1 _ rfl; (with_reducible repeat (first | refine blk_drewN ?_ _ | refine blk_drew ?_ | refine blk_alloc ?_ _)); refine blk_put (cs := #[.int .i64 0, .slice none 0 0]) ?_ 0 _ rfl; (with_reducible repeat (first | refine blk_drewN ?_ _ | refine blk_drew ?_ | refine blk_alloc ?_ _)); exact BK122.out) Try.underlying28 rfl (by kernel_rfl)) rfl ?_
 exact ⟨_, ers, by (with_reducible repeat (first | apply Kd.R_alloc | apply Kd.R_drewN | apply Kd.R_drew)); exact Kd.R_mono (Kd.R_far (p := ⟨gb122, 1, none⟩) (Kd.R_far (p := ⟨gb122, 0, none⟩) (Kd.R_types HO128.out BK122.out (by decide)) (fun _ hk => hk.2) (.int .i64 t125)) (fun _ hk => hk.2) (.slice Ao16 t126.length co16)) (fun _ hk => hk.1), hbC, by repeat (first | (with_reducible first | exact HK.out | apply Kept.alloc | apply Kept.drewN | apply Kept.drew | refine Kept.setCell ?_ (.inr GW121.out) _ | refine Kept.setCell ?_ (.inr GW122.out) _ | refine Kept.setCell ?_ (.inr GW130.out) _) | exact HK.out)⟩

end Go.Proofs.Ytpcckoljocpchaa.QFnAddPick
