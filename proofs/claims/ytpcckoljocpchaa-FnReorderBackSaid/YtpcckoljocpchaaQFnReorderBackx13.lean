-- Written by a program of this session (mk.py). Lean checks it.
import Derived.Test.YtpcckoljocpchaaQFnReorderBackx0
import Derived.Test.YtpcckoljocpchaaQFnReorderBackx3
import Derived.Test.YtpcckoljocpchaaQFnReorderBackx10
import Derived.Test.YtpcckoljocpchaaQFnReorderBackx12
namespace Go.Proofs.Ytpcckoljocpchaa.QFnReorderBack
open Go.RowKit Go.Proofs.YtpcckoljocpchaaW.PrintWords Go.Proofs.YtpcckoljocpchaaW.PrintLast Go.Proofs.YtpcckoljocpchaaW.PrintMore
attribute [local go_sem] max2_int min2_int max_two min_two max_three min_three max_four min_four   -- for this text's walks alone
set_option linter.unusedVariables false
set_option linter.unusedSimpArgs false

/-! ### spec_l9Moved: function 90 -/
mutual
def spec_l9Moved.l0 : Nat → Int → List Int → List Int → Int → Int → List (S56) → Option (Int × (List (S56)) × Int)
 | 0, _, _, _, _, _, _ => none
 | k + 1, x1, x2, x8, x9, x320000, x320001 => if 0 ≤ x320000 then (if x9 < (shl .i64 1 x320000) then ((spec_l6Value.f k x9 x320000).bind fun t329 => (if (x320000 : Int).toNat ≤ 35184372088832 then (spec_l9Moved.l1 k x1 x2 x8 x9 t329 (List.replicate (x320000 : Int).toNat 0) 0 x320000 x320001) else (none))) else ((spec_l8Rows.f k x320000 ([] : List (S56)) x8 0).bind fun bt324 => (some (bt324.1, bt324.2.1, bt324.2.2)))) else (none)
def spec_l9Moved.l1 : Nat → Int → List Int → List Int → Int → List Int → List Int → Int → Int → List (S56) → Option (Int × (List (S56)) × Int)
 | 0, _, _, _, _, _, _, _, _, _ => none
 | k + 1, x1, x2, x8, x9, x10, x11, x12, x320000, x320001 => if x12 < x320000 then (if 0 ≤ x12 then (if x12 < (x2.length : Int) then (if x12 < (x10.length : Int) then (if 0 ≤ (rd x2 x12) then (if (rd x2 x12) < (x11.length : Int) then (spec_l9Moved.l1 k x1 x2 x8 x9 x10 (x11.set ((rd x2 x12) : Int).toNat (rd x10 x12)) (wrap64 (x12 + 1)) x320000 x320001) else (none)) else (none)) else (none)) else (none)) else (none)) else ((spec_l8Value.f k x320000 x320001 x1 x11).bind fun t338 => (if x8.length < 17592186044416 then (spec_l9Moved.l0 k x1 x2 (x8 ++ [t338]) (wrap64 (x9 + 1)) x320000 x320001) else (none)))
end
def spec_l9Moved.f (k : Nat) (a0_0 : Int) (l0_1 : List (S56)) (a1 : Int) (l2 : List Int) : Option (Int × (List (S56)) × Int) := spec_l9Moved.l0 k a1 l2 (([] : List Int)) 0 a0_0 l0_1
theorem spec_l9Moved.mono_l : ∀ k, (∀ y0 y1 y2 y3 y4 y5, LeO (spec_l9Moved.l0 k y0 y1 y2 y3 y4 y5) (spec_l9Moved.l0 (k + 1) y0 y1 y2 y3 y4 y5)) ∧ (∀ y0 y1 y2 y3 y4 y5 y6 y7 y8, LeO (spec_l9Moved.l1 k y0 y1 y2 y3 y4 y5 y6 y7 y8) (spec_l9Moved.l1 (k + 1) y0 y1 y2 y3 y4 y5 y6 y7 y8))
 | 0 => ⟨fun _ _ _ _ _ _ r h => by simp [spec_l9Moved.l0] at h, fun _ _ _ _ _ _ _ _ _ r h => by simp [spec_l9Moved.l1] at h⟩
 | k + 1 => by
  obtain ⟨ih0, ih1⟩ := spec_l9Moved.mono_l k
  refine ⟨?_, ?_⟩
  ·intro y0 y1 y2 y3 y4 y5
   unfold spec_l9Moved.l0
   repeat' first
   | (with_reducible exact ih0 _ _ _ _ _ _)
   | (with_reducible exact ih1 _ _ _ _ _ _ _ _ _)
   | (with_reducible exact spec_l6Value.mono _ _ _)
   | (with_reducible exact spec_l8Rows.mono _ _ _ _ _)
   | (with_reducible exact spec_l8Value.mono _ _ _ _ _)
   | (with_reducible exact LeO.refl _)
   | (with_reducible exact LeO.none _)
   | (with_reducible refine LeO.ite ?_ ?_)
   | (with_reducible refine LeO.bind ?_ (fun _ => ?_))
  ·intro y0 y1 y2 y3 y4 y5 y6 y7 y8
   unfold spec_l9Moved.l1
   repeat' first
   | (with_reducible exact ih0 _ _ _ _ _ _)
   | (with_reducible exact ih1 _ _ _ _ _ _ _ _ _)
   | (with_reducible exact spec_l6Value.mono _ _ _)
   | (with_reducible exact spec_l8Rows.mono _ _ _ _ _)
   | (with_reducible exact spec_l8Value.mono _ _ _ _ _)
   | (with_reducible exact LeO.refl _)
   | (with_reducible exact LeO.none _)
   | (with_reducible refine LeO.ite ?_ ?_)
   | (with_reducible refine LeO.bind ?_ (fun _ => ?_))
theorem spec_l9Moved.mono : ∀ a0 a1 a2 a3 k, LeO (spec_l9Moved.f k a0 a1 a2 a3) (spec_l9Moved.f (k + 1) a0 a1 a2 a3) := by
 intro a0 a1 a2 a3 k
 obtain ⟨ih0, ih1⟩ := spec_l9Moved.mono_l k
 unfold spec_l9Moved.f
 repeat' first
   | (with_reducible exact ih0 _ _ _ _ _ _)
   | (with_reducible exact ih1 _ _ _ _ _ _ _ _ _)
   | (with_reducible exact spec_l6Value.mono _ _ _)
   | (with_reducible exact spec_l8Rows.mono _ _ _ _ _)
   | (with_reducible exact spec_l8Value.mono _ _ _ _ _)
   | (with_reducible exact LeO.refl _)
   | (with_reducible exact LeO.none _)
   | (with_reducible refine LeO.ite ?_ ?_)
   | (with_reducible refine LeO.bind ?_ (fun _ => ?_))
def spec_l9Moved.T10 : Bool × List (List Nat × List Nat) := (true, [([], []), ([], []), ([], []), ([1, 2], [1, 2]), ([3], [3]), ([], []), ([], []), ([5, 6], [5, 6]), ([7], [7]), ([0, 4, 0, 1, 2, 3, 4, 5, 6, 7, 8], [0, 4]), ([9, 8, 0, 1, 2, 3, 4, 5, 6, 7, 8], [8, 9])])
def spec_l9Moved.B10 : List Nat := [0, 0, 0, 6, 14, 0, 0, 96, 224, 511, 1023]
theorem spec_l9Moved.tab10 : rtab .any (opsOf Try.f90 10) = spec_l9Moved.T10 := by kernel_rfl
theorem spec_l9Moved.bits10 : waitsOk spec_l9Moved.T10.2 spec_l9Moved.B10 = true := by kernel_rfl
set_option maxHeartbeats 8000000 in
set_option maxRecDepth 100000 in
theorem spec_l9Moved.calls (k : Nat) (a0_0 : Int) (A0_1 : Option Addr) (c0_1 : Nat) (l0_1 : List (S56)) (a1 : Int) (A2 : Option Addr) (c2 : Nat) (l2 : List Int) (r1 : Int) (r2 : List (S56)) (r3 : Int) (w : World) (hr0_1 : Kd.C k56 w A0_1 l0_1.length l0_1) (hc0_1 : l0_1.length ≤ c0_1) (hr2 : Kd.C (Kd.int .i64) w A2 l2.length l2) (hc2 : l2.length ≤ c2) (h : spec_l9Moved.f k a0_0 l0_1 a1 l2 = some (r1, r2, r3)) :
  Calls Try.prog 90 #[.agg #[.int .i64 a0_0, .slice A0_1 l0_1.length c0_1], .int .i64 a1, .slice A2 l2.length c2] w fun e w' => ∃ v1_ : Value, e = .returned (.tuple #[.agg #[.int .i64 r1, v1_], .int .i64 r3]) ∧ Kd.R k56 56 w' w.heap.size (fun _ => True) v1_ r2 ∧ Below w.heap.size w w' := by
 have hu48 := Try.underlying48
 have HR0_1 := Aside0.mk hr0_1
 have HC0_1 := Aside0.mk hc0_1
 clear hr0_1 hc0_1
 have HR2 := Aside0.mk hr2
 have HC2 := Aside0.mk hc2
 clear hr2 hc2
 have HB := Aside0.mk (Below.refl w.heap.size w)
 have H : (spec_l9Moved.l0 k a1 l2 (([] : List Int)) 0 a0_0 l0_1) = some (r1, r2, r3) := h
 clear h
 obtain ⟨y321, hy321⟩ : ∃ y_ : List Int, y_ = (([] : List Int)) := ⟨_, rfl⟩
 replace H : (spec_l9Moved.l0 k a1 l2 y321 0 a0_0 l0_1) = some (r1, r2, r3) := by first | (rw [hy321]; with_reducible exact H) | (have H2_ := (Option.bind_some _ _).symm.trans H; rw [hy321]; with_reducible exact H2_) | (have H2_ := (Option.bind_some _ _).symm.trans H; with_reducible exact H2_) | with_reducible exact H | (rw [hy321]; exact H) | exact H
 have Ny321 := Aside0.mk hy321
 clear hy321
 have H' := Aside0.mk H
 clear H
 go_enter Try.func90, Try.ntmps90
 go_wp2_with (first | ((with_reducible refine gate_dst (N := 3) rfl ?_); refine box_event ?hg (N := 3) ?hd (cs := #[.int .i64 a0_0, .slice A0_1 l0_1.length c0_1]) (t := 48) ?hr ?_; (case hd => rfl); (case hg => rfl); (case hr => first | (go_simp; done) | (go_simp; rfl)); intro gb319 hg w4 hbox hb; have n0_ := Aside0.mk (below_step hbB hb); have n1_ := Aside0.mk (hbox); have n2_ := Aside0.mk ((gwb hg (below_size hbB) : w.heap.size ≤ gb319)); have n3_ := n2_; clear HB; have HB := n0_; have BK319 := n1_; have GW319 := n2_; have GE319 := n3_; clear n0_ n1_ n2_ n3_; clear hb hbox hg) | ((with_reducible refine gate_dst (N := 6) rfl ?_); refine box_event ?hg (N := 6) ?hd (cs := #[.int .i64 0, .slice none 0 0]) (t := 48) ?hr ?_; (case hd => rfl); (case hg => rfl); (case hr => first | (go_simp; done) | (go_simp; rfl)); intro gb320 hg w5 hbox hb; have n0_ := Aside0.mk (blk_below (g := gb319) (o := .cells #[.int .i64 a0_0, .slice A0_1 l0_1.length c0_1] 48 (0, 0)) (bvK BK319.out) hb); have n1_ := Aside0.mk (below_step hbC hb); have n2_ := Aside0.mk (hbox); have n3_ := Aside0.mk ((gwb hg (below_size hbC) : w.heap.size ≤ gb320)); have n4_ := n3_; have n5_ := Aside0.mk ((by rw [hg]; exact Nat.ne_of_lt (blk_lt (g := gb319) (o := .cells #[.int .i64 a0_0, .slice A0_1 l0_1.length c0_1] 48 (0, 0)) (bvK BK319.out)) : gb319 ≠ gb320)); have n6_ := Aside0.mk ((by rw [hg]; exact Nat.ne_of_gt (blk_lt (g := gb319) (o := .cells #[.int .i64 a0_0, .slice A0_1 l0_1.length c0_1] 48 (0, 0)) (bvK BK319.out)) : gb320 ≠ gb319)); clear BK319; clear HB; have BK319 := n0_; have HB := n1_; have BK320 := n2_; have GW320 := n3_; have GE320 := n4_; have NB319_320 := n5_; have NB320_319 := n6_; clear n0_ n1_ n2_ n3_ n4_ n5_ n6_; clear hb hbox hg) | ((with_reducible refine gate_dst (N := 13) rfl ?_); refine Kd.R_lit (Kd.int .i64) _ 3 ?hg (N := 13) ?hd (xs := ([] : List Int)) (inner := []) (ok := fun _ => True) (okp := fun _ => True) ?hr ?hp (fun _ hk => hk) trivial (Below.refl _ _) (Nat.le_refl _) (by simp) ?_; (case hd => rfl); (case hg => rfl); (case hr => first | (go_simp; done) | (go_simp; rfl)); (case hp => exact (Reps.none _ _)); intro v322 w6 ho7 hb hg_ hnew_; clear hg_ hnew_; (first | rw [← Ny321.out] at ho7 | (simp only [Int.reduceToNat] at ho7; rw [← Ny321.out] at ho7)); have n0_ := Aside0.mk (Kd.R_lower ho7 (below_size hbC)); have n1_ := Aside0.mk (blk_below (g := gb319) (o := .cells #[.int .i64 a0_0, .slice A0_1 l0_1.length c0_1] 48 (0, 0)) (bvK BK319.out) hb); have n2_ := Aside0.mk (blk_below (g := gb320) (o := .cells #[.int .i64 0, .slice none 0 0] 48 (0, 0)) (bvK BK320.out) hb); have n3_ := Aside0.mk (below_step hbC hb); clear BK319; clear BK320; clear HB; have HO323 := n0_; have BK319 := n1_; have BK320 := n2_; have HB := n3_; clear n0_ n1_ n2_ n3_; clear hb ho7))
 go_loopg [8, 9] k (fun kq v8 v9 w' => ∃ (x8_1 : List Int) (x9_1 : Int), v9 = .int .i64 x9_1 ∧ Aside0 (spec_l9Moved.l0 kq a1 l2 x8_1 x9_1 a0_0 l0_1 = some (r1, r2, r3)) ∧ Aside0 (kq ≤ k) ∧ Aside0 (Kd.R (Kd.int .i64) 3 w' w.heap.size (fun _ => True) v8 x8_1) ∧ Aside0 (w'.heap[gb319]? = some (.cells #[.int .i64 a0_0, (.slice A0_1 l0_1.length c0_1)] 48 (0, 0))) ∧ Aside0 (w'.heap[gb320]? = some (.cells #[.int .i64 0, (.slice none 0 0)] 48 (0, 0))) ∧ Aside0 (Below w.heap.size w w'))
 case atStart => exact ⟨(y321), (0), rsd, H', ⟨Nat.le_refl _⟩, ⟨rvR HO323.out⟩, ⟨bvK BK319.out⟩, ⟨bvK BK320.out⟩, ⟨hbC⟩⟩
 case round =>
  clear H'
  try clear c2
  try clear p2
  obtain ⟨x8_1, x9_1, rfl, HA, HK1, HO_8, BK319, BK320, HB⟩ := hrel
  cases gk with
  | zero => exact absurd HA.out (by simp [spec_l9Moved.l0])
  | succ k1 =>
   have H := HA.out
   clear HA
   simp only [spec_l9Moved.l0] at H
   by_cases c8 : 0 ≤ a0_0
   ·rw [if_pos c8] at H
    have c8b0 := eq_true c8
    have c8b1 : decide (0 ≤ a0_0) = true := decide_eq_true c8
    clear c8
    obtain ⟨ji9, hji9⟩ : ∃ j_ : Int, (shl .i64 1 a0_0) = j_ := ⟨_, rfl⟩
    replace H : (if x9_1 < (ji9) then ((spec_l6Value.f k1 x9_1 a0_0).bind fun t329 => (if (a0_0 : Int).toNat ≤ 35184372088832 then (spec_l9Moved.l1 k1 a1 l2 x8_1 x9_1 t329 (List.replicate (a0_0 : Int).toNat 0) 0 a0_0 l0_1) else (none))) else ((spec_l8Rows.f k1 a0_0 ([] : List (S56)) x8_1 0).bind fun bt324 => (some (bt324.1, bt324.2.1, bt324.2.2)))) = some (r1, r2, r3) := by first | (rw [hji9] at H; exact H) | (simp only [hji9] at H ⊢; exact H)
    have hji9_ : (IntKind.i64.wrap (1 * 2 ^ min a0_0.toNat 64)) = ji9 := hji9
    have hji9z : a0_0 ≤ 64 → (IntKind.i64.wrap (1 * 2 ^ a0_0.toNat)) = ji9 := shl_small hji9
    have hji9u : (IntKind.i64.wrap (2 ^ min a0_0.toNat 64)) = ji9 := by have h_ := hji9_; rw [Int.one_mul] at h_; exact h_
    have hji9v : a0_0 ≤ 64 → (IntKind.i64.wrap (2 ^ a0_0.toNat)) = ji9 := fun hle_ => by have h_ := hji9z hle_; rw [Int.one_mul] at h_; exact h_
    have hji9y : (wrap64 (1 * 2 ^ min a0_0.toNat 64)) = ji9 := (i64_w _).symm.trans hji9_
    have hji9x : a0_0 ≤ 64 → (wrap64 (1 * 2 ^ a0_0.toNat)) = ji9 := fun h_ => (i64_w _).symm.trans (hji9z h_)
    by_cases c10 : x9_1 < (ji9)
    ·rw [if_pos c10] at H
     have c10b0 : decide (x9_1 < (ji9)) = true := decide_eq_true c10
     clear c10
     replace H := Option.bind_eq_some_iff.mp H
     obtain ⟨t329, A110, H⟩ := H
     replace H : (if (a0_0 : Int).toNat ≤ 35184372088832 then (spec_l9Moved.l1 k1 a1 l2 x8_1 x9_1 t329 (List.replicate (a0_0 : Int).toNat 0) 0 a0_0 l0_1) else (none)) = some (r1, r2, r3) := H
     have A11 := Aside0.mk A110
     clear A110
     by_cases c12 : (a0_0 : Int).toNat ≤ 35184372088832
     ·rw [if_pos c12] at H
      have c12b0 := eq_true c12
      have c12b1 : decide ((a0_0 : Int).toNat ≤ 35184372088832) = true := decide_eq_true c12
      clear c12
      obtain ⟨y332, hy332⟩ : ∃ y_ : List Int, y_ = (List.replicate (a0_0 : Int).toNat 0) := ⟨_, rfl⟩
      replace H : (spec_l9Moved.l1 k1 a1 l2 x8_1 x9_1 t329 y332 0 a0_0 l0_1) = some (r1, r2, r3) := by first | (rw [hy332]; with_reducible exact H) | (have H2_ := (Option.bind_some _ _).symm.trans H; rw [hy332]; with_reducible exact H2_) | (have H2_ := (Option.bind_some _ _).symm.trans H; with_reducible exact H2_) | with_reducible exact H | (rw [hy332]; exact H) | exact H
      have Ny332 := Aside0.mk hy332
      clear hy332
      have H' := Aside0.mk H
      clear H
      have hnb13 := NB319_320.out
      have hnc13 := NB320_319.out
      have hcz14_0 : wr.cell? ⟨gb319, 0, none⟩ = some (.int .i64 a0_0) := (blk_cell BK319.out 0).trans rfl
      have hcz14_1 : wr.cell? ⟨gb319, 1, none⟩ = some (.slice A0_1 l0_1.length c0_1) := (blk_cell BK319.out 1).trans rfl
      have hfz14_0 := blk_frozen BK319.out 0
      have hfz14_1 := blk_frozen BK319.out 1
      go_wp2_with (first | ((with_reducible refine gate_callee (f := 124) rfl ?_); refine goesL_ (some 24) rfl rfl Try.func124 (by kernel_rfl) rfl #[.int .i64 x9_1, .int .i64 a0_0] rfl lmB ?_; (with_reducible refine (spec_l6Value.calls k1 x9_1 a0_0 t329 _ A11.out).mono ?_); rintro e w15 ⟨v330, rfl, ho0, hb⟩; refine ⟨_, rfl, ?_⟩; have n0_ := Aside0.mk (Kd.R_elder' (rvR HO_8.out) (Kd.R_base ho0) hb); have n1_ := Aside0.mk (Kd.R_lower (Kd.R_new' ho0 (Kd.R_lt (rvR HO_8.out))) (below_size hbC)); have n2_ := Aside0.mk (blk_below (g := gb319) (o := .cells #[.int .i64 a0_0, .slice A0_1 l0_1.length c0_1] 48 (0, 0)) (bvK BK319.out) hb); have n3_ := Aside0.mk (blk_below (g := gb320) (o := .cells #[.int .i64 0, .slice none 0 0] 48 (0, 0)) (bvK BK320.out) hb); have n4_ := Aside0.mk (below_step hbC hb); clear HO_8; clear BK319; clear BK320; clear HB; have HO_8 := n0_; have HO331 := n1_; have BK319 := n2_; have BK320 := n3_; have HB := n4_; clear n0_ n1_ n2_ n3_ n4_; (try clear hb); (try clear hb2); (try clear hk); (try clear hi); (try clear ho0); have hcz16_0 : w15.cell? ⟨gb319, 0, none⟩ = some (.int .i64 a0_0) := (blk_cell BK319.out 0).trans rfl; have hcz16_1 : w15.cell? ⟨gb319, 1, none⟩ = some (.slice A0_1 l0_1.length c0_1) := (blk_cell BK319.out 1).trans rfl; have hfz16_0 := blk_frozen BK319.out 0; have hfz16_1 := blk_frozen BK319.out 1) | ((with_reducible refine gate_dst (N := 27) rfl ?_); refine Kd.R_make (Kd.int .i64) _ 3 rfl (N := 27) rfl 38 _ _ rfl a0_0 rfl rfl Try.underlying38 (.int .i64 0) 8 info3 rfl (by decide) (by omega) 0 (ok := fun _ => True) (okp := fun _ => True) rfl (fun _ hk => hk) trivial (oda) (Nat.le_trans (Nat.mul_le_mul_right _ (oda : a0_0.toNat ≤ 35184372088832)) (by omega)) (Below.refl _ _) (Nat.le_refl _) ?_; intro v333 w17 ho18 hb hg_ hnew_; clear hg_ hnew_; (first | rw [← Ny332.out] at ho18 | (simp only [Int.reduceToNat] at ho18; rw [← Ny332.out] at ho18)); have n0_ := Aside0.mk (Kd.R_elder' (rvR HO_8.out) (Kd.R_base ho18) hb); have n1_ := Aside0.mk (Kd.R_elder' (rvR HO331.out) (Kd.R_base ho18) hb); have n2_ := Aside0.mk (Kd.R_lower (Kd.R_new' (Kd.R_new' ho18 (Kd.R_lt (rvR HO_8.out))) (Kd.R_lt (rvR HO331.out))) (below_size hbC)); have n3_ := Aside0.mk (blk_below (g := gb319) (o := .cells #[.int .i64 a0_0, .slice A0_1 l0_1.length c0_1] 48 (0, 0)) (bvK BK319.out) hb); have n4_ := Aside0.mk (blk_below (g := gb320) (o := .cells #[.int .i64 0, .slice none 0 0] 48 (0, 0)) (bvK BK320.out) hb); have n5_ := Aside0.mk (below_step hbC hb); clear HO_8; clear HO331; clear BK319; clear BK320; clear HB; have HO_8 := n0_; have HO331 := n1_; have HO334 := n2_; have BK319 := n3_; have BK320 := n4_; have HB := n5_; clear n0_ n1_ n2_ n3_ n4_ n5_; clear hb ho18))
      go_loopg [12] k1 (fun kq v12 w' => ∃ (x11_2 : List Int) (x12_2 : Int), v12 = .int .i64 x12_2 ∧ Aside0 (spec_l9Moved.l1 kq a1 l2 x8_1 x9_1 t329 x11_2 x12_2 a0_0 l0_1 = some (r1, r2, r3)) ∧ Aside0 (kq ≤ k1) ∧ Aside0 (Kd.R (Kd.int .i64) 3 w' w.heap.size (fun k_ => some k_ ≠ (v330 : Value).ownBlock ∧ some k_ ≠ (v333 : Value).ownBlock) u8 x8_1) ∧ Aside0 (Kd.R (Kd.int .i64) 3 w' w.heap.size (fun k_ => some k_ ≠ (u8 : Value).ownBlock ∧ some k_ ≠ (v333 : Value).ownBlock) v330 t329) ∧ Aside0 (Kd.R (Kd.int .i64) 3 w' w.heap.size (fun k_ => some k_ ≠ (u8 : Value).ownBlock ∧ some k_ ≠ (v330 : Value).ownBlock) v333 x11_2) ∧ Aside0 (w'.heap[gb319]? = some (.cells #[.int .i64 a0_0, (.slice A0_1 l0_1.length c0_1)] 48 (0, 0))) ∧ Aside0 (w'.heap[gb320]? = some (.cells #[.int .i64 0, (.slice none 0 0)] 48 (0, 0))) ∧ Aside0 (Below w.heap.size w w'))
      case atStart => exact ⟨(y332), (0), rsd, H', ⟨Nat.le_refl _⟩, ⟨by (with_reducible repeat first | apply rvA | apply rvN | apply rvD); exact Kd.R_mono HO_8.out (fun _ hk => ⟨hk.1.2, hk.2⟩)⟩, ⟨by (with_reducible repeat first | apply rvA | apply rvN | apply rvD); exact Kd.R_mono HO331.out (fun _ hk => ⟨hk.1.2, hk.2⟩)⟩, ⟨by (with_reducible repeat first | apply rvA | apply rvN | apply rvD); exact Kd.R_mono HO334.out (fun _ hk => ⟨hk.1.2, hk.2⟩)⟩, ⟨bvK BK319.out⟩, ⟨bvK BK320.out⟩, ⟨hbC⟩⟩
      case round =>
       clear H'
       try clear c1
       try clear c2
       try clear p2
       try clear p6
       try clear c8
       try clear c8b0
       try clear c8b1
       try clear c9
       try clear c10
       try clear c10b0
       try clear c12
       try clear c12b0
       try clear c12b1
       try clear c13
       try clear hcz14_0
       try clear hcz14_1
       try clear hcz16_0
       try clear hcz16_1
       try clear hfz14_0
       try clear hfz14_1
       try clear hfz16_0
       try clear hfz16_1
       try clear p2
       obtain ⟨x11_2, x12_2, rfl, HA, HK2, HO_8, HO_10, HO_11, BK319, BK320, HB⟩ := hrel
       cases gk with
       | zero => exact absurd HA.out (by simp [spec_l9Moved.l1])
       | succ k2 =>
        have H := HA.out
        clear HA
        simp only [spec_l9Moved.l1] at H
        by_cases c19 : x12_2 < a0_0
        ·rw [if_pos c19] at H
         have c19b0 : decide (x12_2 < a0_0) = true := decide_eq_true c19
         clear c19
         by_cases c20 : 0 ≤ x12_2
         ·rw [if_pos c20] at H
          have c20b0 : decide (0 ≤ x12_2) = true := decide_eq_true c20
          clear c20
          by_cases c21 : x12_2 < (l2.length : Int)
          ·rw [if_pos c21] at H
           have c21b0 : decide (x12_2 < (l2.length : Int)) = true := decide_eq_true c21
           clear c21
           by_cases c22 : x12_2 < (t329.length : Int)
           ·rw [if_pos c22] at H
            have c22b0 : decide (x12_2 < (t329.length : Int)) = true := decide_eq_true c22
            clear c22
            by_cases c23 : 0 ≤ (rd l2 x12_2)
            ·rw [if_pos c23] at H
             have c23b0 : decide (0 ≤ (rd l2 x12_2)) = true := decide_eq_true c23
             clear c23
             by_cases c24 : (rd l2 x12_2) < (x11_2.length : Int)
             ·rw [if_pos c24] at H
              have c24b0 : decide ((rd l2 x12_2) < (x11_2.length : Int)) = true := decide_eq_true c24
              clear c24
              obtain ⟨y337, hy337⟩ : ∃ y_ : List Int, y_ = (x11_2.set ((rd l2 x12_2) : Int).toNat (rd t329 x12_2)) := ⟨_, rfl⟩
              replace H : (spec_l9Moved.l1 k2 a1 l2 x8_1 x9_1 t329 y337 (wrap64 (x12_2 + 1)) a0_0 l0_1) = some (r1, r2, r3) := by first | (rw [hy337]; with_reducible exact H) | (have H2_ := (Option.bind_some _ _).symm.trans H; rw [hy337]; with_reducible exact H2_) | (have H2_ := (Option.bind_some _ _).symm.trans H; with_reducible exact H2_) | with_reducible exact H | (rw [hy337]; exact H) | exact H
              have Ny337 := Aside0.mk hy337
              clear hy337
              have H' := Aside0.mk H
              clear H
              have hnb26 := NB319_320.out
              have hnc26 := NB320_319.out
              have hcz27_0 : wr.cell? ⟨gb319, 0, none⟩ = some (.int .i64 a0_0) := (blk_cell BK319.out 0).trans rfl
              have hcz27_1 : wr.cell? ⟨gb319, 1, none⟩ = some (.slice A0_1 l0_1.length c0_1) := (blk_cell BK319.out 1).trans rfl
              have hfz27_0 := blk_frozen BK319.out 0
              have hfz27_1 := blk_frozen BK319.out 1
              try go_wp2
              have n0_ := Aside0.mk (Kd.R_drew HO_8.out)
              have n1_ := Aside0.mk (Kd.R_drew HO_10.out)
              have n2_ := Aside0.mk (Kd.R_drew HO_11.out)
              have n3_ := Aside0.mk (blk_drew BK319.out)
              have n4_ := Aside0.mk (blk_drew BK320.out)
              have n5_ := Aside0.mk (below_drew1 HB.out)
              clear HO_8
              clear HO_10
              clear HO_11
              clear BK319
              clear BK320
              clear HB
              have HO_8 := n0_
              have HO_10 := n1_
              have HO_11 := n2_
              have BK319 := n3_
              have BK320 := n4_
              have HB := n5_
              clear n0_ n1_ n2_ n3_ n4_ n5_
              have p335 : 0 ≤ (x12_2 : Int) := oda
              have q335 : x12_2 < (l2.length : Int) := oda
              obtain ⟨ad335, e335, hx335_0⟩ := Kd.at_int HR2.out x12_2 p335 q335
              have hw335_0 := hx335_0
              cases e335
              try replace hx335_0 := bct HB.out hx335_0
              replace p335 := eq_true p335
              replace q335 := eq_true q335
              obtain ⟨Ao29, co29, eo29⟩ := Kd.R_slice HO_10.out
              (first | subst eo29 | (injection eo29 with f1_ f2_ f3_; have f4_ := f1_.symm; have f5_ := f3_.symm; clear f1_ f2_ f3_; subst f4_; subst f5_))
              have p336 : 0 ≤ (x12_2 : Int) := oda
              have q336 : x12_2 < (t329.length : Int) := oda
              obtain ⟨ad336, e336, hx336_0⟩ := Kd.at_int (Kd.R_reads' HO_10.out).2.2 x12_2 p336 q336
              cases e336
              replace p336 := eq_true p336
              replace q336 := eq_true q336
              have p25 : 0 ≤ ((rd l2 x12_2) : Int) := oda
              have q25 : ((rd l2 x12_2) : Int) < ((x11_2.length : Int) : Int) := oda
              obtain ⟨go25, co25, eo25, gb25, gl25, cl25, HG25⟩ := Kd.R_form HO_11.out (by omega)
              (first | cases eo25 | (injection eo25 with ea_ en_ ec_; (first | subst ea_ | (injection ea_ with ea_; subst ea_)); subst ec_; clear en_))
              have GB25 := Aside0.mk gb25
              have GG25 := Aside0.mk HG25
              clear gb25 gl25 HG25
              obtain ⟨hx25_0, hf25_0⟩ := Kd.R_celln 0 HO_11.out ((rd l2 x12_2) : Int) p25 q25
              replace p25 := eq_true p25
              replace q25 := eq_true q25
              have HP30 := Kd.R_putn HO_11.out ((rd l2 x12_2) : Int) (rd t329 x12_2)
              rw [← Ny337.out] at HP30
              have HQ30 := Aside0.mk HP30
              clear HP30
              refine start_ (n := 11) (S := fun w' => w'.cell? (ad335.add (x12_2).toNat) = some (.int .i64 (rd l2 x12_2)) ∧ w'.cell? (ad336.add (x12_2).toNat) = some (.int .i64 (rd t329 x12_2))) (ds := [10]) (Pt.bm 11 0) (by kernel_rfl) rfl rfl ⟨((HB.out.cell (World.block_lt_of_cell? w _ hw335_0)).trans hw335_0), hx336_0⟩ (fun hHeld => ?_); refine with_tabW spec_l9Moved.tab10 spec_l9Moved.bits10 (fun HT_ HW_ => ?_)
              generalize wr.drew = w28 at HO_8 HO_10 HO_11 BK319 BK320 HB GG25 HQ30 hf25_0 hx25_0 hx335_0 hx336_0 hHeld ⊢
              refine Pt.pu 0 (some 34) (Pt.bm 11 1) (any_of HT_.out (by kernel_rfl)) ?_
              refine Pt.pu 1 (some 35) (Pt.bm 11 3) (any_of HT_.out (by kernel_rfl)) ?_
              refine Pt.pu 2 (some 36) (Pt.bm 11 7) (any_of HT_.out (by kernel_rfl)) ?_
              refine Pt.pu 3 (some 37) (Pt.bm 11 15) (any_of HT_.out (by kernel_rfl)) ?_
              refine Pt.pu 5 (some 39) (Pt.bm 11 47) (any_of HT_.out (by kernel_rfl)) ?_
              refine Pt.pu 6 (some 40) (Pt.bm 11 111) (any_of HT_.out (by kernel_rfl)) ?_
              refine Pt.pu 7 (some 41) (Pt.bm 11 239) (any_of HT_.out (by kernel_rfl)) ?_
              refine Pt.tk 4 (some 38) (Pt.bm 11 255) rfl rfl (take_ofW HT_.out HW_.out (by kernel_rfl)) hHeld (Or.inl ⟨by rfl, by rintro w' ⟨s0, s1⟩; go_simp; with_reducible rfl⟩) ?_
              refine Pt.tk 8 (some 42) (Pt.bm 11 511) rfl rfl (take_ofW HT_.out HW_.out (by kernel_rfl)) hHeld (Or.inl ⟨by rfl, by rintro w' ⟨s0, s1⟩; go_simp; with_reducible rfl⟩) ?_
              refine Pt.pu 9 (some 43) (Pt.bm 11 1023) (any_of HT_.out (by kernel_rfl)) ?_
              refine last_ (i := 10) (N := none) (Pt.bm 11 2047) rfl rfl (one_of HT_.out (by kernel_rfl)) (by decide) (fun K hK => ?_)
              refine skip_ (w1 := ?_) (by rfl) rfl ?_ ?_
              rotate_left
              ·go_simp
               rfl
              refine hK.out _ _ ?_
              clear hK K
              refine done_ (done_of HT_.out (by kernel_rfl)) ?_
              try go_wp2
              go_roundg k2
              case measure => have := HK1.out; have := HK2.out; omega
              case rel => exact ⟨(y337), (wrap64 (x12_2 + 1)), rsd, H', ⟨by have := HK1.out; have := HK2.out; omega⟩, ⟨by (with_reducible repeat first | apply rvA | apply rvN | apply rvD); exact Kd.R_mono (Kd.R_far (p := ⟨go25, ((rd l2 x12_2) : Int).toNat, none⟩) (Kd.R_mono HO_8.out (fun k_ hk => (⟨hk, fun e_ => hk.2 (by rw [e_]; rfl)⟩ : _ ∧ k_ ≠ go25))) (fun _ hk => hk.2) (.int .i64 (rd t329 x12_2))) (fun _ hk => ⟨hk.1.1, hk.1.2⟩)⟩, ⟨by (with_reducible repeat first | apply rvA | apply rvN | apply rvD); exact Kd.R_mono (Kd.R_far (p := ⟨go25, ((rd l2 x12_2) : Int).toNat, none⟩) (Kd.R_mono HO_10.out (fun k_ hk => (⟨hk, fun e_ => hk.2 (by rw [e_]; rfl)⟩ : _ ∧ k_ ≠ go25))) (fun _ hk => hk.2) (.int .i64 (rd t329 x12_2))) (fun _ hk => ⟨hk.1.1, hk.1.2⟩)⟩, ⟨rvR HQ30.out⟩, ⟨by (with_reducible repeat first | apply bkN | apply bkD | apply bkA); refine blk_far ?_ (by have h_ := Kd.R_ne HO_11.out BK319.out (by decide); intro e_; exact h_ (by rw [e_]; rfl)) _; (with_reducible repeat first | apply bkN | apply bkD | apply bkA); exact BK319.out⟩, ⟨by (with_reducible repeat first | apply bkN | apply bkD | apply bkA); refine blk_far ?_ (by have h_ := Kd.R_ne HO_11.out BK320.out (by decide); intro e_; exact h_ (by rw [e_]; rfl)) _; (with_reducible repeat first | apply bkN | apply bkD | apply bkA); exact BK320.out⟩, ⟨by repeat (first | (with_reducible first | exact HB.out | apply bwA | apply bwN | apply bwD | refine below_set ?_ GB25.out | refine below_set ?_ GE319.out | refine below_set ?_ GE320.out) | exact HB.out)⟩⟩
             ·rw [if_neg c24] at H
              exact absurd H (by simp)
            ·rw [if_neg c23] at H
             exact absurd H (by simp)
           ·rw [if_neg c22] at H
            exact absurd H (by simp)
          ·rw [if_neg c21] at H
           exact absurd H (by simp)
         ·rw [if_neg c20] at H
          exact absurd H (by simp)
        ·rw [if_neg c19] at H
         have c19b0 : decide (x12_2 < a0_0) = false := decide_eq_false c19
         clear c19
         replace H := Option.bind_eq_some_iff.mp H
         obtain ⟨t338, A310, H⟩ := H
         replace H : (if x8_1.length < 17592186044416 then (spec_l9Moved.l0 k2 a1 l2 (x8_1 ++ [t338]) (wrap64 (x9_1 + 1)) a0_0 l0_1) else (none)) = some (r1, r2, r3) := H
         have A31 := Aside0.mk A310
         clear A310
         by_cases c32 : x8_1.length < 17592186044416
         ·rw [if_pos c32] at H
          have LMc32 := Aside0.mk c32
          clear c32
          obtain ⟨y339, hy339⟩ : ∃ y_ : List Int, y_ = (x8_1 ++ [t338]) := ⟨_, rfl⟩
          replace H : (spec_l9Moved.l0 k2 a1 l2 y339 (wrap64 (x9_1 + 1)) a0_0 l0_1) = some (r1, r2, r3) := by first | (rw [hy339]; with_reducible exact H) | (have H2_ := (Option.bind_some _ _).symm.trans H; rw [hy339]; with_reducible exact H2_) | (have H2_ := (Option.bind_some _ _).symm.trans H; with_reducible exact H2_) | with_reducible exact H | (rw [hy339]; exact H) | exact H
          have Ny339 := Aside0.mk hy339
          clear hy339
          have H' := Aside0.mk H
          clear H
          have hnb33 := NB319_320.out
          have hnc33 := NB320_319.out
          have hcz34_0 : wr.cell? ⟨gb319, 0, none⟩ = some (.int .i64 a0_0) := (blk_cell BK319.out 0).trans rfl
          have hcz34_1 : wr.cell? ⟨gb319, 1, none⟩ = some (.slice A0_1 l0_1.length c0_1) := (blk_cell BK319.out 1).trans rfl
          have hfz34_0 := blk_frozen BK319.out 0
          have hfz34_1 := blk_frozen BK319.out 1
          obtain ⟨Ao35, co35, eo35⟩ := Kd.R_slice HO_11.out
          subst eo35
          go_wp2_with (first | ((with_reducible refine gate_callee (f := 125) rfl ?_); refine goesL_ (some 48) rfl rfl Try.func125 (by kernel_rfl) rfl #[.agg #[.int .i64 a0_0, .slice A0_1 l0_1.length c0_1], .int .i64 a1, .slice Ao35 x11_2.length co35] rfl lmB ?_; (with_reducible refine (spec_l8Value.calls k2 a0_0 _ _ l0_1 a1 _ _ x11_2 t338 _ ?side1 ?side2 ?side3 ?side4 A31.out).mono ?_); (case side1 => exact kcR (Kd.C_below HR0_1.out HB.out)); (case side2 => exact HC0_1.out); (case side3 => exact kcR (Kd.R_reads' HO_11.out).2.2); (case side4 => exact (Kd.R_reads' HO_11.out).2.1); rintro e w36 ⟨rfl, hb⟩; refine ⟨_, rfl, ?_⟩; have n0_ := Aside0.mk (Kd.R_below (rvR HO_8.out) hb); have n1_ := Aside0.mk (Kd.R_below (rvR HO_10.out) hb); have n2_ := Aside0.mk (Kd.R_below (rvR HO_11.out) hb); have n3_ := Aside0.mk (blk_below (g := gb319) (o := .cells #[.int .i64 a0_0, .slice A0_1 l0_1.length c0_1] 48 (0, 0)) (bvK BK319.out) hb); have n4_ := Aside0.mk (blk_below (g := gb320) (o := .cells #[.int .i64 0, .slice none 0 0] 48 (0, 0)) (bvK BK320.out) hb); have n5_ := Aside0.mk (below_step hbC hb); clear HO_8; clear HO_10; clear HO_11; clear BK319; clear BK320; clear HB; have HO_8 := n0_; have HO_10 := n1_; have HO_11 := n2_; have BK319 := n3_; have BK320 := n4_; have HB := n5_; clear n0_ n1_ n2_ n3_ n4_ n5_; (try clear hb); (try clear hb2); (try clear hk); (try clear hi)) | ((with_reducible refine gate_builtin (b := .append) (xs := #[.tmp 44, .tmp 49]) rfl ?_); at_builtin; refine Kd.R_append (Kd.int .i64) (w0 := w) w.heap.size rfl (.tmp 44) (.tmp 49) 38 3 (.int .i64 0) 8 rfl Try.underlying38 info3 rfl (by decide) (by omega) u8 x8_1 t338 [.int .i64 t338] (fun k_ => some k_ ≠ (v330 : Value).ownBlock ∧ some k_ ≠ (.slice Ao35 x11_2.length co35 : Value).ownBlock) (fun _ => False) rfl rfl ?aP (fun _ hk => hk.elim) ?aF ?aO ?aB ?aS ?aL ?_; (case aP => exact rfl); (case aB => exact hbC); (case aF => exact (fun k_ hk => ⟨Kd.fresh' (Kd.R_lt (rvR HO_10.out)) k_ hk, Kd.fresh' (Kd.R_lt (rvR HO_11.out)) k_ hk⟩)); (case aO => exact (rvR HO_8.out)); (case aS => exact (below_size hbC)); (case aL => have := LMc32.out; omega); intro v340 w37 ho hb hg hat; rw [← Ny339.out] at ho; have n0_ := Aside0.mk (Kd.R_after (ok := (fun k_ => some k_ ≠ (.slice Ao35 x11_2.length co35 : Value).ownBlock)) (by (with_reducible repeat first | apply rvA | apply rvN | apply rvD); exact Kd.R_mono HO_10.out (fun _ hk => ⟨hk.2, hk.1⟩)) hg hat); have n1_ := Aside0.mk (Kd.R_after (ok := (fun k_ => some k_ ≠ (v330 : Value).ownBlock)) (by (with_reducible repeat first | apply rvA | apply rvN | apply rvD); exact Kd.R_mono HO_11.out (fun _ hk => ⟨hk.2, hk.1⟩)) hg hat); have n2_ := Aside0.mk (blk_grown (g := gb319) (o := .cells #[.int .i64 a0_0, .slice A0_1 l0_1.length c0_1] 48 (0, 0)) (bvK BK319.out) hg (Kd.R_ne HO_8.out BK319.out (by decide))); have n3_ := Aside0.mk (blk_grown (g := gb320) (o := .cells #[.int .i64 0, .slice none 0 0] 48 (0, 0)) (bvK BK320.out) hg (Kd.R_ne HO_8.out BK320.out (by decide))); have n4_ := Aside0.mk (hb); have n5_ := Aside0.mk (ho); clear HO_10; clear HO_11; clear BK319; clear BK320; clear HB; clear HO_8; have HO_10 := n0_; have HO_11 := n1_; have BK319 := n2_; have BK320 := n3_; have HB := n4_; have HO341 := n5_; clear n0_ n1_ n2_ n3_ n4_ n5_; clear ho hb hg hat))
          go_roundg k2
          case measure => have := HK1.out; have := HK2.out; omega
          case rel => exact ⟨(y339), (wrap64 (x9_1 + 1)), rsd, H', ⟨by have := HK1.out; have := HK2.out; omega⟩, ⟨by (with_reducible repeat first | apply rvA | apply rvN | apply rvD); exact Kd.R_mono HO341.out (fun _ hk => trivial)⟩, ⟨bvK BK319.out⟩, ⟨bvK BK320.out⟩, ⟨hbC⟩⟩
         ·rw [if_neg c32] at H
          exact absurd H (by simp)
     ·rw [if_neg c12] at H
      exact absurd H (by simp)
    ·rw [if_neg c10] at H
     have c10b0 : decide (x9_1 < (ji9)) = false := decide_eq_false c10
     clear c10
     replace H := Option.bind_eq_some_iff.mp H
     obtain ⟨⟨t324, t325, t328⟩, A380, H⟩ := H
     replace H : (some (t324, t325, t328)) = some (r1, r2, r3) := H
     have A38 := Aside0.mk A380
     clear A380
     simp only [Option.some.injEq, Prod.mk.injEq] at H
     obtain ⟨rfl, rfl, rfl⟩ := H
     have hnb39 := NB319_320.out
     have hnc39 := NB320_319.out
     have hcz40_0 : wr.cell? ⟨gb319, 0, none⟩ = some (.int .i64 a0_0) := (blk_cell BK319.out 0).trans rfl
     have hcz40_1 : wr.cell? ⟨gb319, 1, none⟩ = some (.slice A0_1 l0_1.length c0_1) := (blk_cell BK319.out 1).trans rfl
     have hfz40_0 := blk_frozen BK319.out 0
     have hfz40_1 := blk_frozen BK319.out 1
     obtain ⟨Ao41, co41, eo41⟩ := Kd.R_slice HO_8.out
     subst eo41
     go_wp2_with (first | ((with_reducible refine gate_callee (f := 126) rfl ?_); refine goesL_ (some 55) rfl rfl Try.func126 (by kernel_rfl) rfl #[.agg #[.int .i64 a0_0, .slice none 0 0], .slice Ao41 x8_1.length co41, .int .i64 0] rfl lmB ?_; (refine (spec_l8Rows.calls k1 a0_0 (fun k_ => some k_ = (.slice none 0 0 : Value).ownBlock) (.slice none 0 0) ([] : List (S56)) _ _ x8_1 0 t324 t325 t328 w _ ?side1 ?side2 ?side3 ?side4 A38.out).mono ?_); (case side1 => repeat (first | (with_reducible first | exact HB.out | apply bwA | apply bwN | apply bwD | refine below_set ?_ GE319.out | refine below_set ?_ GE320.out) | exact HB.out)); (case side2 => exact Kd.R_nil _ _ _ _ _); (case side3 => exact Kd.C_kept_own (HO_8.out) (fun k_ hk_ hs_ => (fun e_ => by simp [Value.ownBlock] at e_) hs_)); (case side4 => exact (Kd.R_reads' HO_8.out).2.1); rintro e w42 ⟨v326, rfl, ho0, hb, hkp⟩; refine ⟨_, rfl, ?_⟩; have n0_ := Aside0.mk (Kd.R_mono (ok' := fun k_ => True) (Kd.R_keptB (HO_8.out) hkp (fun k_ hk_ hs_ => (fun e_ => by simp [Value.ownBlock] at e_) hs_)) (fun k_ hk_ => trivial)); have n1_ := Aside0.mk (blk_kept (bvK BK319.out) hkp (fun hs_ => (fun e_ => by simp [Value.ownBlock] at e_) hs_)); have n2_ := Aside0.mk (blk_kept (bvK BK320.out) hkp (fun hs_ => (fun e_ => by simp [Value.ownBlock] at e_) hs_)); have n3_ := Aside0.mk (Kd.R_mono (ok' := fun k_ => True) ho0 (fun k_ hk_ => trivial)); have n4_ := Aside0.mk (hb); clear HO_8; clear BK319; clear BK320; clear HB; have HO_8 := n0_; have BK319 := n1_; have BK320 := n2_; have HO327 := n3_; have HB := n4_; clear n0_ n1_ n2_ n3_ n4_; (try clear hb); (try clear hkp); (try clear ho0); have hcz43_0 : w42.cell? ⟨gb320, 0, none⟩ = some (.int .i64 0) := (blk_cell BK320.out 0).trans rfl; have hcz43_1 : w42.cell? ⟨gb320, 1, none⟩ = some (.slice none 0 0) := (blk_cell BK320.out 1).trans rfl; have hfz43_0 := blk_frozen BK320.out 0; have hfz43_1 := blk_frozen BK320.out 1; obtain ⟨Ao44, co44, eo44⟩ := Kd.R_slice HO327.out; subst eo44))
     refine bodyPost_ret (results_ct rfl _ _ gb320 48 #[.int .i64 t324, .slice Ao44 t325.length co44] (0, 0) _ rfl (by (with_reducible repeat first | apply bkN | apply bkD | apply bkA); refine blk_put (cs := #[.int .i64 t324, .slice none 0 0]) ?_ 1 _ rfl; (with_reducible repeat first | apply bkN | apply bkD | apply bkA); refine blk_put (cs := #[.int .i64 0, .slice none 0 0]) ?_ 0 _ rfl; (with_reducible repeat first | apply bkN | apply bkD | apply bkA); exact BK320.out) Try.underlying48 rfl (by kernel_rfl)) rfl ?_
     exact ⟨_, by first | rfl | (simp [errW_none, errW_some] <;> rfl) | (simp only [← hji9]; first | rfl | (simp [errW_none, errW_some] <;> rfl)) | (simp [*, errW_none, errW_some] <;> rfl), by (with_reducible repeat first | apply rvA | apply rvN | apply rvD); exact Kd.R_mono (Kd.R_far (p := ⟨gb320, 1, none⟩) (Kd.R_far (p := ⟨gb320, 0, none⟩) (Kd.R_types HO327.out BK320.out (by decide)) (fun _ hk => hk.2) (.int .i64 t324)) (fun _ hk => hk.2) (.slice Ao44 t325.length co44)) (fun _ hk => trivial), hbC⟩
   ·rw [if_neg c8] at H
    exact absurd H (by simp)

/-! ### spec_l8Told: function 91 -/
def spec_l8Told.f (a0_0 : Int) (l0_1 : List (S56)) (a1 : Int) : Option (Int × (List (S56)) × Int) := if a1 < 0 then (some (0, ([] : List (S56)), (-1))) else (some (a0_0, l0_1, a1))
set_option maxHeartbeats 8000000 in
set_option maxRecDepth 100000 in
theorem spec_l8Told.calls (a0_0 : Int) (P0_1_ : Nat → Prop) (u9000_ : Value) (l0_1 : List (S56)) (a1 : Int) (r1 : Int) (r2 : List (S56)) (r3 : Int) (w0 w : World) (hB : Below w0.heap.size w0 w) (ho0_1 : Kd.R k56 56 w w0.heap.size P0_1_ u9000_ l0_1) (h : spec_l8Told.f a0_0 l0_1 a1 = some (r1, r2, r3)) :
  Calls Try.prog 91 #[.agg #[.int .i64 a0_0, u9000_], .int .i64 a1] w fun e w' => ∃ v1_ : Value, e = .returned (.tuple #[.agg #[.int .i64 r1, v1_], .int .i64 r3]) ∧ Kd.R k56 56 w' w0.heap.size (fun k_ => (P0_1_ k_ ∨ w.heap.size ≤ k_)) v1_ r2 ∧ Below w0.heap.size w0 w' ∧ Kept w w' (fun k_ => P0_1_ k_) := by
 have hu48 := Try.underlying48
 have HO0_1 := Aside0.mk (show Kd.R k56 56 w w0.heap.size (fun k_ => (P0_1_ k_ ∨ w.heap.size ≤ k_)) u9000_ l0_1 from Kd.R_mono ho0_1 (fun k_ hk => (.inl hk)))
 have HK := Aside0.mk (Kept.refl w (fun k_ => P0_1_ k_))
 have HW0 := Aside0.mk hB.size
 have HB := Aside0.mk hB
 clear hB
 have H : (if a1 < 0 then (some (0, ([] : List (S56)), (-1))) else (some (a0_0, l0_1, a1))) = some (r1, r2, r3) := h
 clear h
 by_cases c3 : a1 < 0
 ·rw [if_pos c3] at H
  have c3b0 : decide (a1 < 0) = true := decide_eq_true c3
  clear c3
  simp only [Option.some.injEq, Prod.mk.injEq] at H
  obtain ⟨rfl, rfl, rfl⟩ := H
  obtain ⟨Ao4, co4, eo4⟩ := Kd.R_slice HO0_1.out
  subst eo4
  go_enter Try.func91, Try.ntmps91
  go_wp2_with (first | ((with_reducible refine gate_dst (N := 2) rfl ?_); refine box_event ?hg (N := 2) ?hd (cs := #[.int .i64 a0_0, .slice Ao4 l0_1.length co4]) (t := 48) ?hr ?_; (case hd => rfl); (case hg => rfl); (case hr => first | (go_simp; done) | (go_simp; rfl)); intro gb342 hg w5 hbox hb; have n0_ := Aside0.mk (Kd.R_below (rvR HO0_1.out) hb); have n1_ := Aside0.mk (Kept.below (S := (fun k_ => P0_1_ k_)) (by repeat (first | (with_reducible first | exact HK.out | apply Kept.alloc | apply Kept.drewN | apply Kept.drew) | exact HK.out)) hb); have n2_ := Aside0.mk (below_step hbB hb); have n3_ := Aside0.mk (hbox); have n4_ := Aside0.mk ((by rw [hg]; exact (by first | exact HK.out.1 | exact (show Kept w _ (fun k_ => P0_1_ k_) from by repeat (first | (with_reducible first | exact HK.out | apply Kept.alloc | apply Kept.drewN | apply Kept.drew) | exact HK.out)).1) : w.heap.size ≤ gb342)); have n5_ := Aside0.mk ((gwb hg (below_size hbB) : w0.heap.size ≤ gb342)); clear HO0_1; clear HK; clear HB; have HO0_1 := n0_; have HK := n1_; have HB := n2_; have BK342 := n3_; have GW342 := n4_; have GE342 := n5_; clear n0_ n1_ n2_ n3_ n4_ n5_; clear hb hbox hg) | ((with_reducible refine gate_dst (N := 4) rfl ?_); refine box_event ?hg (N := 4) ?hd (cs := #[.int .i64 0, .slice none 0 0]) (t := 48) ?hr ?_; (case hd => rfl); (case hg => rfl); (case hr => first | (go_simp; done) | (go_simp; rfl)); intro gb343 hg w6 hbox hb; have n0_ := Aside0.mk (Kd.R_below (rvR HO0_1.out) hb); have n1_ := Aside0.mk (blk_below (g := gb342) (o := .cells #[.int .i64 a0_0, .slice Ao4 l0_1.length co4] 48 (0, 0)) (bvK BK342.out) hb); have n2_ := Aside0.mk (Kept.below (S := (fun k_ => P0_1_ k_)) (by repeat (first | (with_reducible first | exact HK.out | apply Kept.alloc | apply Kept.drewN | apply Kept.drew | refine Kept.setCell ?_ (.inr GW342.out) _) | exact HK.out)) hb); have n3_ := Aside0.mk (below_step hbC hb); have n4_ := Aside0.mk (hbox); have n5_ := Aside0.mk ((by rw [hg]; exact (by first | exact HK.out.1 | exact (show Kept w _ (fun k_ => P0_1_ k_) from by repeat (first | (with_reducible first | exact HK.out | apply Kept.alloc | apply Kept.drewN | apply Kept.drew | refine Kept.setCell ?_ (.inr GW342.out) _) | exact HK.out)).1) : w.heap.size ≤ gb343)); have n6_ := Aside0.mk ((gwb hg (below_size hbC) : w0.heap.size ≤ gb343)); have n7_ := Aside0.mk ((by rw [hg]; exact Nat.ne_of_lt (blk_lt (g := gb342) (o := .cells #[.int .i64 a0_0, .slice Ao4 l0_1.length co4] 48 (0, 0)) (bvK BK342.out)) : gb342 ≠ gb343)); have n8_ := Aside0.mk ((by rw [hg]; exact Nat.ne_of_gt (blk_lt (g := gb342) (o := .cells #[.int .i64 a0_0, .slice Ao4 l0_1.length co4] 48 (0, 0)) (bvK BK342.out)) : gb343 ≠ gb342)); clear HO0_1; clear BK342; clear HK; clear HB; have HO0_1 := n0_; have BK342 := n1_; have HK := n2_; have HB := n3_; have BK343 := n4_; have GW343 := n5_; have GE343 := n6_; have NB342_343 := n7_; have NB343_342 := n8_; clear n0_ n1_ n2_ n3_ n4_ n5_ n6_ n7_ n8_; clear hb hbox hg; have hnb7 := NB343_342.out; have hnc7 := NB342_343.out; have hcz8_0 : w6.cell? ⟨gb343, 0, none⟩ = some (.int .i64 0) := (blk_cell BK343.out 0).trans rfl; have hcz8_1 : w6.cell? ⟨gb343, 1, none⟩ = some (.slice none 0 0) := (blk_cell BK343.out 1).trans rfl; have hfz8_0 := blk_frozen BK343.out 0; have hfz8_1 := blk_frozen BK343.out 1))
  refine bodyPost_ret (results_ct rfl _ _ gb343 48 #[.int .i64 0, .slice none 0 0] (0, 0) _ rfl (by (with_reducible repeat first | apply bkN | apply bkD | apply bkA); refine blk_put (cs := #[.int .i64 0, .slice none 0 0]) ?_ 1 _ rfl; (with_reducible repeat first | apply bkN | apply bkD | apply bkA); refine blk_put (cs := #[.int .i64 0, .slice none 0 0]) ?_ 0 _ rfl; (with_reducible repeat first | apply bkN | apply bkD | apply bkA); exact BK343.out) Try.underlying48 rfl (by kernel_rfl)) rfl ?_
  exact ⟨_, ers, by first | exact Kd.R_nil _ _ _ _ _ | exact Kd.N_nil _ _ _ _ _ | exact Kd.V_nil _ _ _ _ _ | exact Kd.Q_nil _ _ _ _ _ | exact Kd.S_nil _ _ _ _ _, hbC, by repeat (first | (with_reducible first | exact HK.out | apply Kept.alloc | apply Kept.drewN | apply Kept.drew | refine Kept.setCell ?_ (.inr GW342.out) _ | refine Kept.setCell ?_ (.inr GW343.out) _) | exact HK.out)⟩
 ·rw [if_neg c3] at H
  have c3b0 : decide (a1 < 0) = false := decide_eq_false c3
  clear c3
  simp only [Option.some.injEq, Prod.mk.injEq] at H
  obtain ⟨rfl, rfl, rfl⟩ := H
  obtain ⟨Ao9, co9, eo9⟩ := Kd.R_slice HO0_1.out
  subst eo9
  go_enter Try.func91, Try.ntmps91
  go_wp2_with (first | ((with_reducible refine gate_dst (N := 2) rfl ?_); refine box_event ?hg (N := 2) ?hd (cs := #[.int .i64 a0_0, .slice Ao9 l0_1.length co9]) (t := 48) ?hr ?_; (case hd => rfl); (case hg => rfl); (case hr => first | (go_simp; done) | (go_simp; rfl)); intro gb342 hg w10 hbox hb; have n0_ := Aside0.mk (Kd.R_below (rvR HO0_1.out) hb); have n1_ := Aside0.mk (Kept.below (S := (fun k_ => P0_1_ k_)) (by repeat (first | (with_reducible first | exact HK.out | apply Kept.alloc | apply Kept.drewN | apply Kept.drew) | exact HK.out)) hb); have n2_ := Aside0.mk (below_step hbB hb); have n3_ := Aside0.mk (hbox); have n4_ := Aside0.mk ((by rw [hg]; exact (by first | exact HK.out.1 | exact (show Kept w _ (fun k_ => P0_1_ k_) from by repeat (first | (with_reducible first | exact HK.out | apply Kept.alloc | apply Kept.drewN | apply Kept.drew) | exact HK.out)).1) : w.heap.size ≤ gb342)); have n5_ := Aside0.mk ((gwb hg (below_size hbB) : w0.heap.size ≤ gb342)); clear HO0_1; clear HK; clear HB; have HO0_1 := n0_; have HK := n1_; have HB := n2_; have BK342 := n3_; have GW342 := n4_; have GE342 := n5_; clear n0_ n1_ n2_ n3_ n4_ n5_; clear hb hbox hg) | ((with_reducible refine gate_dst (N := 4) rfl ?_); refine box_event ?hg (N := 4) ?hd (cs := #[.int .i64 0, .slice none 0 0]) (t := 48) ?hr ?_; (case hd => rfl); (case hg => rfl); (case hr => first | (go_simp; done) | (go_simp; rfl)); intro gb343 hg w11 hbox hb; have n0_ := Aside0.mk (Kd.R_below (rvR HO0_1.out) hb); have n1_ := Aside0.mk (blk_below (g := gb342) (o := .cells #[.int .i64 a0_0, .slice Ao9 l0_1.length co9] 48 (0, 0)) (bvK BK342.out) hb); have n2_ := Aside0.mk (Kept.below (S := (fun k_ => P0_1_ k_)) (by repeat (first | (with_reducible first | exact HK.out | apply Kept.alloc | apply Kept.drewN | apply Kept.drew | refine Kept.setCell ?_ (.inr GW342.out) _) | exact HK.out)) hb); have n3_ := Aside0.mk (below_step hbC hb); have n4_ := Aside0.mk (hbox); have n5_ := Aside0.mk ((by rw [hg]; exact (by first | exact HK.out.1 | exact (show Kept w _ (fun k_ => P0_1_ k_) from by repeat (first | (with_reducible first | exact HK.out | apply Kept.alloc | apply Kept.drewN | apply Kept.drew | refine Kept.setCell ?_ (.inr GW342.out) _) | exact HK.out)).1) : w.heap.size ≤ gb343)); have n6_ := Aside0.mk ((gwb hg (below_size hbC) : w0.heap.size ≤ gb343)); have n7_ := Aside0.mk ((by rw [hg]; exact Nat.ne_of_lt (blk_lt (g := gb342) (o := .cells #[.int .i64 a0_0, .slice Ao9 l0_1.length co9] 48 (0, 0)) (bvK BK342.out)) : gb342 ≠ gb343)); have n8_ := Aside0.mk ((by rw [hg]; exact Nat.ne_of_gt (blk_lt (g := gb342) (o := .cells #[.int .i64 a0_0, .slice Ao9 l0_1.length co9] 48 (0, 0)) (bvK BK342.out)) : gb343 ≠ gb342)); clear HO0_1; clear BK342; clear HK; clear HB; have HO0_1 := n0_; have BK342 := n1_; have HK := n2_; have HB := n3_; have BK343 := n4_; have GW343 := n5_; have GE343 := n6_; have NB342_343 := n7_; have NB343_342 := n8_; clear n0_ n1_ n2_ n3_ n4_ n5_ n6_ n7_ n8_; clear hb hbox hg; have hnb12 := NB342_343.out; have hnc12 := NB343_342.out; have hcz13_0 : w11.cell? ⟨gb342, 0, none⟩ = some (.int .i64 a0_0) := (blk_cell BK342.out 0).trans rfl; have hcz13_1 : w11.cell? ⟨gb342, 1, none⟩ = some (.slice Ao9 l0_1.length co9) := (blk_cell BK342.out 1).trans rfl; have hfz13_0 := blk_frozen BK342.out 0; have hfz13_1 := blk_frozen BK342.out 1; have hcz14_0 : w11.cell? ⟨gb343, 0, none⟩ = some (.int .i64 0) := (blk_cell BK343.out 0).trans rfl; have hcz14_1 : w11.cell? ⟨gb343, 1, none⟩ = some (.slice none 0 0) := (blk_cell BK343.out 1).trans rfl; have hfz14_0 := blk_frozen BK343.out 0; have hfz14_1 := blk_frozen BK343.out 1))
  refine bodyPost_ret (results_ct rfl _ _ gb343 48 #[.int .i64 a0_0, .slice Ao9 l0_1.length co9] (0, 0) _ rfl (by (with_reducible repeat first | apply bkN | apply bkD | apply bkA); refine blk_put (cs := #[.int .i64 a0_0, .slice none 0 0]) ?_ 1 _ rfl; (with_reducible repeat first | apply bkN | apply bkD | apply bkA); refine blk_put (cs := #[.int .i64 0, .slice none 0 0]) ?_ 0 _ rfl; (with_reducible repeat first | apply bkN | apply bkD | apply bkA); exact BK343.out) Try.underlying48 rfl (by kernel_rfl)) rfl ?_
  exact ⟨_, ers, by (with_reducible repeat first | apply rvA | apply rvN | apply rvD); exact Kd.R_mono (Kd.R_far (p := ⟨gb343, 1, none⟩) (Kd.R_far (p := ⟨gb343, 0, none⟩) (Kd.R_types HO0_1.out BK343.out (by decide)) (fun _ hk => hk.2) (.int .i64 a0_0)) (fun _ hk => hk.2) (.slice Ao9 l0_1.length co9)) (fun _ hk => hk.1), hbC, by repeat (first | (with_reducible first | exact HK.out | apply Kept.alloc | apply Kept.drewN | apply Kept.drew | refine Kept.setCell ?_ (.inr GW342.out) _ | refine Kept.setCell ?_ (.inr GW343.out) _) | exact HK.out)⟩

/-! ### spec_Reordered: function 33 -/
def spec_Reordered.j0 : Nat → Int → List Int → Bool → Int → List (S56) → Option (Int × (List (S56)) × Int)
 | 0, _, _, _, _, _ => none
 | k + 1, x1, x2, x25, x345000, x345001 => if x25 = true then (some (0, ([] : List (S56)), (-1))) else ((spec_l9Moved.f k x345000 x345001 x1 x2).bind fun bt349 => ((spec_l8Told.f bt349.1 bt349.2.1 bt349.2.2).bind fun bt355 => (some (bt355.1, bt355.2.1, bt355.2.2))))
def spec_Reordered.f (k : Nat) (a0_0 : Int) (l0_1 : List (S56)) (a1 : Int) (l2 : List Int) : Option (Int × (List (S56)) × Int) := (spec_DiagramValid.f k a0_0 l0_1).bind fun t346 => (if t346 = true then ((spec_l8Place.f a0_0 l0_1 a1).bind fun t347 => (if t347 = true then ((spec_OrderValid.f k l2 a0_0).bind fun t348 => (spec_Reordered.j0 k a1 l2 (!t348) a0_0 l0_1)) else (spec_Reordered.j0 k a1 l2 true a0_0 l0_1))) else (spec_Reordered.j0 k a1 l2 true a0_0 l0_1))
theorem spec_Reordered.mono_l : ∀ k, (∀ y0 y1 y2 y3 y4, LeO (spec_Reordered.j0 k y0 y1 y2 y3 y4) (spec_Reordered.j0 (k + 1) y0 y1 y2 y3 y4))
 | 0 => fun _ _ _ _ _ r h => by simp [spec_Reordered.j0] at h
 | k + 1 => by
  have ih0 := spec_Reordered.mono_l k
  ·intro y0 y1 y2 y3 y4
   unfold spec_Reordered.j0
   repeat' first
   | (with_reducible exact ih0 _ _ _ _ _)
   | (with_reducible exact spec_DiagramValid.mono _ _ _)
   | (with_reducible exact spec_OrderValid.mono _ _ _)
   | (with_reducible exact spec_l9Moved.mono _ _ _ _ _)
   | (with_reducible exact LeO.refl _)
   | (with_reducible exact LeO.none _)
   | (with_reducible refine LeO.ite ?_ ?_)
   | (with_reducible refine LeO.bind ?_ (fun _ => ?_))
theorem spec_Reordered.mono : ∀ a0 a1 a2 a3 k, LeO (spec_Reordered.f k a0 a1 a2 a3) (spec_Reordered.f (k + 1) a0 a1 a2 a3) := by
 intro a0 a1 a2 a3 k
 have ih0 := spec_Reordered.mono_l k
 unfold spec_Reordered.f
 repeat' first
   | (with_reducible exact ih0 _ _ _ _ _)
   | (with_reducible exact spec_DiagramValid.mono _ _ _)
   | (with_reducible exact spec_OrderValid.mono _ _ _)
   | (with_reducible exact spec_l9Moved.mono _ _ _ _ _)
   | (with_reducible exact LeO.refl _)
   | (with_reducible exact LeO.none _)
   | (with_reducible refine LeO.ite ?_ ?_)
   | (with_reducible refine LeO.bind ?_ (fun _ => ?_))
set_option maxHeartbeats 8000000 in
set_option maxRecDepth 100000 in
theorem spec_Reordered.calls (k : Nat) (a0_0 : Int) (A0_1 : Option Addr) (c0_1 : Nat) (l0_1 : List (S56)) (a1 : Int) (A2 : Option Addr) (c2 : Nat) (l2 : List Int) (r1 : Int) (r2 : List (S56)) (r3 : Int) (w : World) (hr0_1 : Kd.C k56 w A0_1 l0_1.length l0_1) (hc0_1 : l0_1.length ≤ c0_1) (hr2 : Kd.C (Kd.int .i64) w A2 l2.length l2) (hc2 : l2.length ≤ c2) (h : spec_Reordered.f k a0_0 l0_1 a1 l2 = some (r1, r2, r3)) :
  Calls Try.prog 33 #[.agg #[.int .i64 a0_0, .slice A0_1 l0_1.length c0_1], .int .i64 a1, .slice A2 l2.length c2] w fun e w' => ∃ v1_ : Value, e = .returned (.tuple #[.agg #[.int .i64 r1, v1_], .int .i64 r3]) ∧ Kd.R k56 56 w' w.heap.size (fun _ => True) v1_ r2 ∧ Below w.heap.size w w' := by
 have hu48 := Try.underlying48
 have HR0_1 := Aside0.mk hr0_1
 have HC0_1 := Aside0.mk hc0_1
 clear hr0_1 hc0_1
 have HR2 := Aside0.mk hr2
 have HC2 := Aside0.mk hc2
 clear hr2 hc2
 have HB := Aside0.mk (Below.refl w.heap.size w)
 have H : ((spec_DiagramValid.f k a0_0 l0_1).bind fun t346 => (if t346 = true then ((spec_l8Place.f a0_0 l0_1 a1).bind fun t347 => (if t347 = true then ((spec_OrderValid.f k l2 a0_0).bind fun t348 => (spec_Reordered.j0 k a1 l2 (!t348) a0_0 l0_1)) else (spec_Reordered.j0 k a1 l2 true a0_0 l0_1))) else (spec_Reordered.j0 k a1 l2 true a0_0 l0_1))) = some (r1, r2, r3) := h
 clear h
 have HC4 := Aside0.mk H
 clear H
 go_enter Try.func33, Try.ntmps33
 go_upto_region 1 with (first | ((with_reducible refine gate_dst (N := 3) rfl ?_); refine box_event ?hg (N := 3) ?hd (cs := #[.int .i64 a0_0, .slice A0_1 l0_1.length c0_1]) (t := 48) ?hr ?_; (case hd => rfl); (case hg => rfl); (case hr => first | (go_simp; done) | (go_simp; rfl)); intro gb344 hg w5 hbox hb; have n0_ := Aside0.mk (below_step hbB hb); have n1_ := Aside0.mk (hbox); have n2_ := Aside0.mk ((gwb hg (below_size hbB) : w.heap.size ≤ gb344)); have n3_ := n2_; clear HB; have HB := n0_; have BK344 := n1_; have GW344 := n2_; have GE344 := n3_; clear n0_ n1_ n2_ n3_; clear hb hbox hg) | ((with_reducible refine gate_dst (N := 6) rfl ?_); refine box_event ?hg (N := 6) ?hd (cs := #[.int .i64 0, .slice none 0 0]) (t := 48) ?hr ?_; (case hd => rfl); (case hg => rfl); (case hr => first | (go_simp; done) | (go_simp; rfl)); intro gb345 hg w6 hbox hb; have n0_ := Aside0.mk (blk_below (g := gb344) (o := .cells #[.int .i64 a0_0, .slice A0_1 l0_1.length c0_1] 48 (0, 0)) (bvK BK344.out) hb); have n1_ := Aside0.mk (below_step hbC hb); have n2_ := Aside0.mk (hbox); have n3_ := Aside0.mk ((gwb hg (below_size hbC) : w.heap.size ≤ gb345)); have n4_ := n3_; have n5_ := Aside0.mk ((by rw [hg]; exact Nat.ne_of_lt (blk_lt (g := gb344) (o := .cells #[.int .i64 a0_0, .slice A0_1 l0_1.length c0_1] 48 (0, 0)) (bvK BK344.out)) : gb344 ≠ gb345)); have n6_ := Aside0.mk ((by rw [hg]; exact Nat.ne_of_gt (blk_lt (g := gb344) (o := .cells #[.int .i64 a0_0, .slice A0_1 l0_1.length c0_1] 48 (0, 0)) (bvK BK344.out)) : gb345 ≠ gb344)); clear BK344; clear HB; have BK344 := n0_; have HB := n1_; have BK345 := n2_; have GW345 := n3_; have GE345 := n4_; have NB344_345 := n5_; have NB345_344 := n6_; clear n0_ n1_ n2_ n3_ n4_ n5_ n6_; clear hb hbox hg))
 (try simp only [Act.put, List.setIfInBounds_toArray, List.set_cons_zero, List.set_cons_succ])
 go_cut [25] (fun v25 wc => ∃ (kq : Nat) (x25_3 : Bool), v25 = .bool x25_3 ∧ Aside0 (spec_Reordered.j0 kq a1 l2 x25_3 a0_0 l0_1 = some (r1, r2, r3)) ∧ Aside0 (kq ≤ k) ∧ Aside0 (wc.heap[gb344]? = some (.cells #[.int .i64 a0_0, (.slice A0_1 l0_1.length c0_1)] 48 (0, 0))) ∧ Aside0 (wc.heap[gb345]? = some (.cells #[.int .i64 0, (.slice none 0 0)] 48 (0, 0))) ∧ Aside0 (Below w.heap.size w wc))
 case first =>
  have H := HC4.out
  clear HC4
  replace H := Option.bind_eq_some_iff.mp H
  obtain ⟨t346, A70, H⟩ := H
  replace H : (if t346 = true then ((spec_l8Place.f a0_0 l0_1 a1).bind fun t347 => (if t347 = true then ((spec_OrderValid.f k l2 a0_0).bind fun t348 => (spec_Reordered.j0 k a1 l2 (!t348) a0_0 l0_1)) else (spec_Reordered.j0 k a1 l2 true a0_0 l0_1))) else (spec_Reordered.j0 k a1 l2 true a0_0 l0_1)) = some (r1, r2, r3) := H
  have A7 := Aside0.mk A70
  clear A70
  by_cases c8 : t346 = true
  ·subst c8
   have H1 : ((spec_l8Place.f a0_0 l0_1 a1).bind fun t347 => (if t347 = true then ((spec_OrderValid.f k l2 a0_0).bind fun t348 => (spec_Reordered.j0 k a1 l2 (!t348) a0_0 l0_1)) else (spec_Reordered.j0 k a1 l2 true a0_0 l0_1))) = some (r1, r2, r3) := by rw [if_pos rfl] at H; exact H
   clear H
   have H := H1
   clear H1
   replace H := Option.bind_eq_some_iff.mp H
   obtain ⟨t347, A90, H⟩ := H
   replace H : (if t347 = true then ((spec_OrderValid.f k l2 a0_0).bind fun t348 => (spec_Reordered.j0 k a1 l2 (!t348) a0_0 l0_1)) else (spec_Reordered.j0 k a1 l2 true a0_0 l0_1)) = some (r1, r2, r3) := H
   have A9 := Aside0.mk A90
   clear A90
   by_cases c10 : t347 = true
   ·subst c10
    have H1 : ((spec_OrderValid.f k l2 a0_0).bind fun t348 => (spec_Reordered.j0 k a1 l2 (!t348) a0_0 l0_1)) = some (r1, r2, r3) := by rw [if_pos rfl] at H; exact H
    clear H
    have H := H1
    clear H1
    replace H := Option.bind_eq_some_iff.mp H
    obtain ⟨t348, A110, H⟩ := H
    replace H : (spec_Reordered.j0 k a1 l2 (!t348) a0_0 l0_1) = some (r1, r2, r3) := H
    have A11 := Aside0.mk A110
    clear A110
    have H' := Aside0.mk H
    clear H
    have hnb12 := NB344_345.out
    have hnc12 := NB345_344.out
    have hcz13_0 : w6.cell? ⟨gb344, 0, none⟩ = some (.int .i64 a0_0) := (blk_cell BK344.out 0).trans rfl
    have hcz13_1 : w6.cell? ⟨gb344, 1, none⟩ = some (.slice A0_1 l0_1.length c0_1) := (blk_cell BK344.out 1).trans rfl
    have hfz13_0 := blk_frozen BK344.out 0
    have hfz13_1 := blk_frozen BK344.out 1
    go_wp2_with (first | ((with_reducible refine gate_callee (f := 88) rfl ?_); refine goesL_ (some 11) rfl rfl Try.func88 (by kernel_rfl) rfl #[.agg #[.int .i64 a0_0, .slice A0_1 l0_1.length c0_1]] rfl lmB ?_; (with_reducible refine (spec_DiagramValid.calls k a0_0 _ _ l0_1 true _ ?side1 ?side2 A7.out).mono ?_); (case side1 => exact kcR (Kd.C_below HR0_1.out HB.out)); (case side2 => exact HC0_1.out); rintro e w14 ⟨rfl, hb⟩; refine ⟨_, rfl, ?_⟩; have n0_ := Aside0.mk (blk_below (g := gb344) (o := .cells #[.int .i64 a0_0, .slice A0_1 l0_1.length c0_1] 48 (0, 0)) (bvK BK344.out) hb); have n1_ := Aside0.mk (blk_below (g := gb345) (o := .cells #[.int .i64 0, .slice none 0 0] 48 (0, 0)) (bvK BK345.out) hb); have n2_ := Aside0.mk (below_step hbC hb); clear BK344; clear BK345; clear HB; have BK344 := n0_; have BK345 := n1_; have HB := n2_; clear n0_ n1_ n2_; (try clear hb); (try clear hb2); (try clear hk); (try clear hi); have hcz15_0 : w14.cell? ⟨gb344, 0, none⟩ = some (.int .i64 a0_0) := (blk_cell BK344.out 0).trans rfl; have hcz15_1 : w14.cell? ⟨gb344, 1, none⟩ = some (.slice A0_1 l0_1.length c0_1) := (blk_cell BK344.out 1).trans rfl; have hfz15_0 := blk_frozen BK344.out 0; have hfz15_1 := blk_frozen BK344.out 1) | (go_at_call 89; (with_reducible refine (spec_l8Place.calls a0_0 _ _ l0_1 a1 true _ ?side1 ?side2 A9.out).mono ?_); (case side1 => exact kcR (Kd.C_below HR0_1.out HB.out)); (case side2 => exact HC0_1.out); rintro e w16 ⟨rfl, hb⟩; have n0_ := Aside0.mk (blk_below (g := gb344) (o := .cells #[.int .i64 a0_0, .slice A0_1 l0_1.length c0_1] 48 (0, 0)) (bvK BK344.out) hb); have n1_ := Aside0.mk (blk_below (g := gb345) (o := .cells #[.int .i64 0, .slice none 0 0] 48 (0, 0)) (bvK BK345.out) hb); have n2_ := Aside0.mk (below_step hbC hb); clear BK344; clear BK345; clear HB; have BK344 := n0_; have BK345 := n1_; have HB := n2_; clear n0_ n1_ n2_; (try clear hb); (try clear hb2); (try clear hk); (try clear hi); have hcz17_0 : w16.cell? ⟨gb344, 0, none⟩ = some (.int .i64 a0_0) := (blk_cell BK344.out 0).trans rfl; have hcz17_1 : w16.cell? ⟨gb344, 1, none⟩ = some (.slice A0_1 l0_1.length c0_1) := (blk_cell BK344.out 1).trans rfl; have hfz17_0 := blk_frozen BK344.out 0; have hfz17_1 := blk_frozen BK344.out 1) | (go_at_call 87; (with_reducible refine (spec_OrderValid.calls k _ _ l2 a0_0 t348 _ ?side1 ?side2 A11.out).mono ?_); (case side1 => exact kcR (Kd.C_below HR2.out HB.out)); (case side2 => exact HC2.out); rintro e w' ⟨rfl, ⟨nd, rfl⟩⟩))
    go_meet
    case rel => exact ⟨_, (!t348), rsd, H', ⟨by first | omega | exact Nat.le_refl _⟩, ⟨bvK BK344.out⟩, ⟨bvK BK345.out⟩, ⟨hbC⟩⟩
   ·replace c10 := Bool.eq_false_iff.mpr c10
    subst c10
    have H1 : (spec_Reordered.j0 k a1 l2 true a0_0 l0_1) = some (r1, r2, r3) := by rw [if_neg (show ¬ (false = true) by decide)] at H; exact H
    clear H
    have H := H1
    clear H1
    have H' := Aside0.mk H
    clear H
    have hnb18 := NB344_345.out
    have hnc18 := NB345_344.out
    have hcz19_0 : w6.cell? ⟨gb344, 0, none⟩ = some (.int .i64 a0_0) := (blk_cell BK344.out 0).trans rfl
    have hcz19_1 : w6.cell? ⟨gb344, 1, none⟩ = some (.slice A0_1 l0_1.length c0_1) := (blk_cell BK344.out 1).trans rfl
    have hfz19_0 := blk_frozen BK344.out 0
    have hfz19_1 := blk_frozen BK344.out 1
    go_wp2_with (first | ((with_reducible refine gate_callee (f := 88) rfl ?_); refine goesL_ (some 11) rfl rfl Try.func88 (by kernel_rfl) rfl #[.agg #[.int .i64 a0_0, .slice A0_1 l0_1.length c0_1]] rfl lmB ?_; (with_reducible refine (spec_DiagramValid.calls k a0_0 _ _ l0_1 true _ ?side1 ?side2 A7.out).mono ?_); (case side1 => exact kcR (Kd.C_below HR0_1.out HB.out)); (case side2 => exact HC0_1.out); rintro e w20 ⟨rfl, hb⟩; refine ⟨_, rfl, ?_⟩; have n0_ := Aside0.mk (blk_below (g := gb344) (o := .cells #[.int .i64 a0_0, .slice A0_1 l0_1.length c0_1] 48 (0, 0)) (bvK BK344.out) hb); have n1_ := Aside0.mk (blk_below (g := gb345) (o := .cells #[.int .i64 0, .slice none 0 0] 48 (0, 0)) (bvK BK345.out) hb); have n2_ := Aside0.mk (below_step hbC hb); clear BK344; clear BK345; clear HB; have BK344 := n0_; have BK345 := n1_; have HB := n2_; clear n0_ n1_ n2_; (try clear hb); (try clear hb2); (try clear hk); (try clear hi); have hcz21_0 : w20.cell? ⟨gb344, 0, none⟩ = some (.int .i64 a0_0) := (blk_cell BK344.out 0).trans rfl; have hcz21_1 : w20.cell? ⟨gb344, 1, none⟩ = some (.slice A0_1 l0_1.length c0_1) := (blk_cell BK344.out 1).trans rfl; have hfz21_0 := blk_frozen BK344.out 0; have hfz21_1 := blk_frozen BK344.out 1) | (go_at_call 89; (with_reducible refine (spec_l8Place.calls a0_0 _ _ l0_1 a1 false _ ?side1 ?side2 A9.out).mono ?_); (case side1 => exact kcR (Kd.C_below HR0_1.out HB.out)); (case side2 => exact HC0_1.out); rintro e w22 ⟨rfl, hb⟩; have n0_ := Aside0.mk (blk_below (g := gb344) (o := .cells #[.int .i64 a0_0, .slice A0_1 l0_1.length c0_1] 48 (0, 0)) (bvK BK344.out) hb); have n1_ := Aside0.mk (blk_below (g := gb345) (o := .cells #[.int .i64 0, .slice none 0 0] 48 (0, 0)) (bvK BK345.out) hb); have n2_ := Aside0.mk (below_step hbC hb); clear BK344; clear BK345; clear HB; have BK344 := n0_; have BK345 := n1_; have HB := n2_; clear n0_ n1_ n2_; (try clear hb); (try clear hb2); (try clear hk); (try clear hi)))
    go_meet
    case rel => exact ⟨_, (true), rsd, H', ⟨by first | omega | exact Nat.le_refl _⟩, ⟨bvK BK344.out⟩, ⟨bvK BK345.out⟩, ⟨hbC⟩⟩
  ·replace c8 := Bool.eq_false_iff.mpr c8
   subst c8
   have H1 : (spec_Reordered.j0 k a1 l2 true a0_0 l0_1) = some (r1, r2, r3) := by rw [if_neg (show ¬ (false = true) by decide)] at H; exact H
   clear H
   have H := H1
   clear H1
   have H' := Aside0.mk H
   clear H
   have hnb23 := NB344_345.out
   have hnc23 := NB345_344.out
   have hcz24_0 : w6.cell? ⟨gb344, 0, none⟩ = some (.int .i64 a0_0) := (blk_cell BK344.out 0).trans rfl
   have hcz24_1 : w6.cell? ⟨gb344, 1, none⟩ = some (.slice A0_1 l0_1.length c0_1) := (blk_cell BK344.out 1).trans rfl
   have hfz24_0 := blk_frozen BK344.out 0
   have hfz24_1 := blk_frozen BK344.out 1
   go_wp2_with (first | ((with_reducible refine gate_callee (f := 88) rfl ?_); refine goesL_ (some 11) rfl rfl Try.func88 (by kernel_rfl) rfl #[.agg #[.int .i64 a0_0, .slice A0_1 l0_1.length c0_1]] rfl lmB ?_; (with_reducible refine (spec_DiagramValid.calls k a0_0 _ _ l0_1 false _ ?side1 ?side2 A7.out).mono ?_); (case side1 => exact kcR (Kd.C_below HR0_1.out HB.out)); (case side2 => exact HC0_1.out); rintro e w25 ⟨rfl, hb⟩; refine ⟨_, rfl, ?_⟩; have n0_ := Aside0.mk (blk_below (g := gb344) (o := .cells #[.int .i64 a0_0, .slice A0_1 l0_1.length c0_1] 48 (0, 0)) (bvK BK344.out) hb); have n1_ := Aside0.mk (blk_below (g := gb345) (o := .cells #[.int .i64 0, .slice none 0 0] 48 (0, 0)) (bvK BK345.out) hb); have n2_ := Aside0.mk (below_step hbC hb); clear BK344; clear BK345; clear HB; have BK344 := n0_; have BK345 := n1_; have HB := n2_; clear n0_ n1_ n2_; (try clear hb); (try clear hb2); (try clear hk); (try clear hi)))
   go_meet
   case rel => exact ⟨_, (true), rsd, H', ⟨by first | omega | exact Nat.le_refl _⟩, ⟨bvK BK344.out⟩, ⟨bvK BK345.out⟩, ⟨hbC⟩⟩
 case rest =>
  clear HC4
  try clear c1
  try clear c2
  try clear p2
  try clear c3
  try clear c8
  try clear c10
  try clear c12
  try clear c18
  try clear c23
  try clear hcz13_0
  try clear hcz13_1
  try clear hcz15_0
  try clear hcz15_1
  try clear hcz17_0
  try clear hcz17_1
  try clear hcz19_0
  try clear hcz19_1
  try clear hcz21_0
  try clear hcz21_1
  try clear hcz24_0
  try clear hcz24_1
  try clear hfz13_0
  try clear hfz13_1
  try clear hfz15_0
  try clear hfz15_1
  try clear hfz17_0
  try clear hfz17_1
  try clear hfz19_0
  try clear hfz19_1
  try clear hfz21_0
  try clear hfz21_1
  try clear hfz24_0
  try clear hfz24_1
  obtain ⟨kq, x25_3, rfl, HA, HJ3, BK344, BK345, HB⟩ := hcut
  cases kq with
  | zero => exact absurd HA.out (by simp [spec_Reordered.j0])
  | succ kj3 =>
   have H := HA.out
   clear HA
   simp only [spec_Reordered.j0] at H
   by_cases c26 : x25_3 = true
   ·subst c26
    have H1 : (some (0, ([] : List (S56)), (-1))) = some (r1, r2, r3) := by rw [if_pos rfl] at H; exact H
    clear H
    have H := H1
    clear H1
    simp only [Option.some.injEq, Prod.mk.injEq] at H
    obtain ⟨rfl, rfl, rfl⟩ := H
    have hnb27 := NB345_344.out
    have hnc27 := NB344_345.out
    have hcz28_0 : wc.cell? ⟨gb345, 0, none⟩ = some (.int .i64 0) := (blk_cell BK345.out 0).trans rfl
    have hcz28_1 : wc.cell? ⟨gb345, 1, none⟩ = some (.slice none 0 0) := (blk_cell BK345.out 1).trans rfl
    have hfz28_0 := blk_frozen BK345.out 0
    have hfz28_1 := blk_frozen BK345.out 1
    go_wp2
    refine bodyPost_ret (results_ct rfl _ _ gb345 48 #[.int .i64 0, .slice none 0 0] (0, 0) _ rfl (by (with_reducible repeat first | apply bkN | apply bkD | apply bkA); refine blk_put (cs := #[.int .i64 0, .slice none 0 0]) ?_ 1 _ rfl; (with_reducible repeat first | apply bkN | apply bkD | apply bkA); refine blk_put (cs := #[.int .i64 0, .slice none 0 0]) ?_ 0 _ rfl; (with_reducible repeat first | apply bkN | apply bkD | apply bkA); exact BK345.out) Try.underlying48 rfl (by kernel_rfl)) rfl ?_
    exact ⟨_, ers, by first | exact Kd.R_nil _ _ _ _ _ | exact Kd.N_nil _ _ _ _ _ | exact Kd.V_nil _ _ _ _ _ | exact Kd.Q_nil _ _ _ _ _ | exact Kd.S_nil _ _ _ _ _, hbC⟩
   ·replace c26 := Bool.eq_false_iff.mpr c26
    subst c26
    have H1 : ((spec_l9Moved.f kj3 a0_0 l0_1 a1 l2).bind fun bt349 => ((spec_l8Told.f bt349.1 bt349.2.1 bt349.2.2).bind fun bt355 => (some (bt355.1, bt355.2.1, bt355.2.2)))) = some (r1, r2, r3) := by rw [if_neg (show ¬ (false = true) by decide)] at H; exact H
    clear H
    have H := H1
    clear H1
    replace H := Option.bind_eq_some_iff.mp H
    obtain ⟨⟨t349, t350, t353⟩, A290, H⟩ := H
    replace H : ((spec_l8Told.f t349 t350 t353).bind fun bt355 => (some (bt355.1, bt355.2.1, bt355.2.2))) = some (r1, r2, r3) := H
    have A29 := Aside0.mk A290
    clear A290
    replace H := Option.bind_eq_some_iff.mp H
    obtain ⟨⟨t355, t356, t359⟩, A300, H⟩ := H
    replace H : (some (t355, t356, t359)) = some (r1, r2, r3) := H
    have A30 := Aside0.mk A300
    clear A300
    simp only [Option.some.injEq, Prod.mk.injEq] at H
    obtain ⟨rfl, rfl, rfl⟩ := H
    have hnb31 := NB344_345.out
    have hnc31 := NB345_344.out
    have hcz32_0 : wc.cell? ⟨gb344, 0, none⟩ = some (.int .i64 a0_0) := (blk_cell BK344.out 0).trans rfl
    have hcz32_1 : wc.cell? ⟨gb344, 1, none⟩ = some (.slice A0_1 l0_1.length c0_1) := (blk_cell BK344.out 1).trans rfl
    have hfz32_0 := blk_frozen BK344.out 0
    have hfz32_1 := blk_frozen BK344.out 1
    go_wp2_with (first | ((with_reducible refine gate_callee (f := 90) rfl ?_); refine goesL_ (some 31) rfl rfl Try.func90 (by kernel_rfl) rfl #[.agg #[.int .i64 a0_0, .slice A0_1 l0_1.length c0_1], .int .i64 a1, .slice A2 l2.length c2] rfl lmB ?_; (with_reducible refine (spec_l9Moved.calls kj3 a0_0 _ _ l0_1 a1 _ _ l2 t349 t350 t353 _ ?side1 ?side2 ?side3 ?side4 A29.out).mono ?_); (case side1 => exact kcR (Kd.C_below HR0_1.out HB.out)); (case side2 => exact HC0_1.out); (case side3 => exact kcR (Kd.C_below HR2.out HB.out)); (case side4 => exact HC2.out); rintro e w33 ⟨v351, rfl, ho0, hb⟩; refine ⟨_, rfl, ?_⟩; have n0_ := Aside0.mk (Kd.R_lower ho0 (below_size hbC)); have n1_ := Aside0.mk (blk_below (g := gb344) (o := .cells #[.int .i64 a0_0, .slice A0_1 l0_1.length c0_1] 48 (0, 0)) (bvK BK344.out) hb); have n2_ := Aside0.mk (blk_below (g := gb345) (o := .cells #[.int .i64 0, .slice none 0 0] 48 (0, 0)) (bvK BK345.out) hb); have n3_ := Aside0.mk (below_step hbC hb); clear BK344; clear BK345; clear HB; have HO352 := n0_; have BK344 := n1_; have BK345 := n2_; have HB := n3_; clear n0_ n1_ n2_ n3_; (try clear hb); (try clear hb2); (try clear hk); (try clear hi); (try clear ho0)) | ((with_reducible refine gate_dst (N := 8) rfl ?_); refine box_event ?hg (N := 8) ?hd (cs := #[.int .i64 0, .slice none 0 0]) (t := 48) ?hr ?_; (case hd => rfl); (case hg => rfl); (case hr => first | (go_simp; done) | (go_simp; rfl)); intro gb354 hg w34 hbox hb; have n0_ := Aside0.mk (Kd.R_below (rvR HO352.out) hb); have n1_ := Aside0.mk (blk_below (g := gb344) (o := .cells #[.int .i64 a0_0, .slice A0_1 l0_1.length c0_1] 48 (0, 0)) (bvK BK344.out) hb); have n2_ := Aside0.mk (blk_below (g := gb345) (o := .cells #[.int .i64 0, .slice none 0 0] 48 (0, 0)) (bvK BK345.out) hb); have n3_ := Aside0.mk (below_step hbC hb); have n4_ := Aside0.mk (hbox); have n5_ := Aside0.mk ((gwb hg (below_size hbC) : w.heap.size ≤ gb354)); have n6_ := n5_; have n7_ := Aside0.mk ((by rw [hg]; exact Nat.ne_of_lt (blk_lt (g := gb344) (o := .cells #[.int .i64 a0_0, .slice A0_1 l0_1.length c0_1] 48 (0, 0)) (bvK BK344.out)) : gb344 ≠ gb354)); have n8_ := Aside0.mk ((by rw [hg]; exact Nat.ne_of_gt (blk_lt (g := gb344) (o := .cells #[.int .i64 a0_0, .slice A0_1 l0_1.length c0_1] 48 (0, 0)) (bvK BK344.out)) : gb354 ≠ gb344)); have n9_ := Aside0.mk ((by rw [hg]; exact Nat.ne_of_lt (blk_lt (g := gb345) (o := .cells #[.int .i64 0, .slice none 0 0] 48 (0, 0)) (bvK BK345.out)) : gb345 ≠ gb354)); have n10_ := Aside0.mk ((by rw [hg]; exact Nat.ne_of_gt (blk_lt (g := gb345) (o := .cells #[.int .i64 0, .slice none 0 0] 48 (0, 0)) (bvK BK345.out)) : gb354 ≠ gb345)); clear HO352; clear BK344; clear BK345; clear HB; have HO352 := n0_; have BK344 := n1_; have BK345 := n2_; have HB := n3_; have BK354 := n4_; have GW354 := n5_; have GE354 := n6_; have NB344_354 := n7_; have NB354_344 := n8_; have NB345_354 := n9_; have NB354_345 := n10_; clear n0_ n1_ n2_ n3_ n4_ n5_ n6_ n7_ n8_ n9_ n10_; clear hb hbox hg; have hnb35 := NB354_344.out; have hnc35 := NB344_354.out; have hnb36 := NB354_345.out; have hnc36 := NB345_354.out; have hcz37_0 : w34.cell? ⟨gb354, 0, none⟩ = some (.int .i64 0) := (blk_cell BK354.out 0).trans rfl; have hcz37_1 : w34.cell? ⟨gb354, 1, none⟩ = some (.slice none 0 0) := (blk_cell BK354.out 1).trans rfl; have hfz37_0 := blk_frozen BK354.out 0; have hfz37_1 := blk_frozen BK354.out 1; obtain ⟨Ao38, co38, eo38⟩ := Kd.R_slice HO352.out; subst eo38) | ((with_reducible refine gate_store (t := 48) (p := 8) rfl ?_); refine store_event (t := 48) (p := 8) (v := ?vo_w39) (w1 := ((w34.setCell ⟨gb354, 0, none⟩ (.int .i64 t349)).setCell ⟨gb354, 1, none⟩ (.slice Ao38 t350.length co38))) ?hg ?ho ?hn ?hr ?_; (case ho => rfl); (case hg => rfl); (case hn => rfl); (case hr => first | (go_simp; done) | (go_simp; rfl)); intro w39 hw; have n0_ : Aside0 (Kd.R k56 56 w39 w.heap.size (fun _ => True) (.slice Ao38 t350.length co38) t350) := ⟨(by rw [hw]; exact (by (with_reducible repeat first | apply rvA | apply rvN | apply rvD); exact Kd.R_mono (Kd.R_far (p := ⟨gb354, 1, none⟩) (Kd.R_far (p := ⟨gb354, 0, none⟩) (Kd.R_types HO352.out BK354.out (by decide)) (fun _ hk => hk.2) (.int .i64 t349)) (fun _ hk => hk.2) (.slice Ao38 t350.length co38)) (fun _ hk => trivial)))⟩; have n1_ : Aside0 (w39.heap[gb344]? = some (.cells #[.int .i64 a0_0, .slice A0_1 l0_1.length c0_1] 48 (0, 0))) := ⟨(by rw [hw]; exact (by (with_reducible repeat first | apply bkN | apply bkD | apply bkA); refine blk_far ?_ NB344_354.out _; (with_reducible repeat first | apply bkN | apply bkD | apply bkA); refine blk_far ?_ NB344_354.out _; (with_reducible repeat first | apply bkN | apply bkD | apply bkA); exact BK344.out))⟩; have n2_ : Aside0 (w39.heap[gb345]? = some (.cells #[.int .i64 0, .slice none 0 0] 48 (0, 0))) := ⟨(by rw [hw]; exact (by (with_reducible repeat first | apply bkN | apply bkD | apply bkA); refine blk_far ?_ NB345_354.out _; (with_reducible repeat first | apply bkN | apply bkD | apply bkA); refine blk_far ?_ NB345_354.out _; (with_reducible repeat first | apply bkN | apply bkD | apply bkA); exact BK345.out))⟩; have n3_ : Aside0 (w39.heap[gb354]? = some (.cells #[.int .i64 t349, .slice Ao38 t350.length co38] 48 (0, 0))) := ⟨(by rw [hw]; exact (by (with_reducible repeat first | apply bkN | apply bkD | apply bkA); refine blk_put (cs := #[.int .i64 t349, .slice none 0 0]) ?_ 1 _ rfl; (with_reducible repeat first | apply bkN | apply bkD | apply bkA); refine blk_put (cs := #[.int .i64 0, .slice none 0 0]) ?_ 0 _ rfl; (with_reducible repeat first | apply bkN | apply bkD | apply bkA); exact BK354.out))⟩; have n4_ : Aside0 (Below w.heap.size w w39) := ⟨(by rw [hw]; exact hbC)⟩; clear hw; clear HO352; clear BK344; clear BK345; clear BK354; clear HB; have HO352 := n0_; have BK344 := n1_; have BK345 := n2_; have BK354 := n3_; have HB := n4_; clear n0_ n1_ n2_ n3_ n4_; have hcz40_0 : w39.cell? ⟨gb354, 0, none⟩ = some (.int .i64 t349) := (blk_cell BK354.out 0).trans rfl; have hcz40_1 : w39.cell? ⟨gb354, 1, none⟩ = some (.slice Ao38 t350.length co38) := (blk_cell BK354.out 1).trans rfl; have hfz40_0 := blk_frozen BK354.out 0; have hfz40_1 := blk_frozen BK354.out 1) | ((with_reducible refine gate_callee (f := 91) rfl ?_); refine goesL_ (some 36) rfl rfl Try.func91 (by kernel_rfl) rfl #[.agg #[.int .i64 t349, .slice Ao38 t350.length co38], .int .i64 t353] rfl lmB ?_; (with_reducible refine (spec_l8Told.calls t349 (fun k_ => some k_ = (.slice Ao38 t350.length co38 : Value).ownBlock) (.slice Ao38 t350.length co38) t350 t353 t355 t356 t359 w _ ?side1 ?side2 A30.out).mono ?_); (case side1 => repeat (first | (with_reducible first | exact HB.out | apply bwA | apply bwN | apply bwD | refine below_set ?_ GE344.out | refine below_set ?_ GE345.out | refine below_set ?_ GE354.out) | exact HB.out)); (case side2 => exact Kd.R_tight rfl HO352.out); rintro e w41 ⟨v357, rfl, ho0, hb, hkp⟩; refine ⟨_, rfl, ?_⟩; have n0_ := Aside0.mk (blk_kept (bvK BK344.out) hkp (fun hs_ => (fun e_ => (Kd.R_ne HO352.out BK344.out (by decide)) e_) hs_)); have n1_ := Aside0.mk (blk_kept (bvK BK345.out) hkp (fun hs_ => (fun e_ => (Kd.R_ne HO352.out BK345.out (by decide)) e_) hs_)); have n2_ := Aside0.mk (blk_kept (bvK BK354.out) hkp (fun hs_ => (fun e_ => (Kd.R_ne HO352.out BK354.out (by decide)) e_) hs_)); have n3_ := Aside0.mk (Kd.R_mono (ok' := fun k_ => True) ho0 (fun k_ hk_ => trivial)); have n4_ := Aside0.mk (hb); clear BK344; clear BK345; clear BK354; clear HB; clear HO352; have BK344 := n0_; have BK345 := n1_; have BK354 := n2_; have HO358 := n3_; have HB := n4_; clear n0_ n1_ n2_ n3_ n4_; (try clear hb); (try clear hkp); (try clear ho0); have hcz42_0 : w41.cell? ⟨gb345, 0, none⟩ = some (.int .i64 0) := (blk_cell BK345.out 0).trans rfl; have hcz42_1 : w41.cell? ⟨gb345, 1, none⟩ = some (.slice none 0 0) := (blk_cell BK345.out 1).trans rfl; have hfz42_0 := blk_frozen BK345.out 0; have hfz42_1 := blk_frozen BK345.out 1; obtain ⟨Ao43, co43, eo43⟩ := Kd.R_slice HO358.out; subst eo43))
    refine bodyPost_ret (results_ct rfl _ _ gb345 48 #[.int .i64 t355, .slice Ao43 t356.length co43] (0, 0) _ rfl (by (with_reducible repeat first | apply bkN | apply bkD | apply bkA); refine blk_put (cs := #[.int .i64 t355, .slice none 0 0]) ?_ 1 _ rfl; (with_reducible repeat first | apply bkN | apply bkD | apply bkA); refine blk_put (cs := #[.int .i64 0, .slice none 0 0]) ?_ 0 _ rfl; (with_reducible repeat first | apply bkN | apply bkD | apply bkA); exact BK345.out) Try.underlying48 rfl (by kernel_rfl)) rfl ?_
    exact ⟨_, ers, by (with_reducible repeat first | apply rvA | apply rvN | apply rvD); exact Kd.R_mono (Kd.R_far (p := ⟨gb345, 1, none⟩) (Kd.R_far (p := ⟨gb345, 0, none⟩) (Kd.R_types HO358.out BK345.out (by decide)) (fun _ hk => hk.2) (.int .i64 t355)) (fun _ hk => hk.2) (.slice Ao43 t356.length co43)) (fun _ hk => trivial), hbC⟩

end Go.Proofs.Ytpcckoljocpchaa.QFnReorderBack
