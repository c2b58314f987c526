-- Written by a program of this session (mk.py). Lean checks it.
import Derived.Test.YtpcckoljocpchaaQFnCompactedx0
import Derived.Test.YtpcckoljocpchaaQFnCompactedx8
import Derived.Test.YtpcckoljocpchaaQFnCompactedx9
namespace Go.Proofs.Ytpcckoljocpchaa.QFnCompacted
open Go.RowKit Go.Proofs.YtpcckoljocpchaaW.PrintWords Go.Proofs.YtpcckoljocpchaaW.PrintLast Go.Proofs.YtpcckoljocpchaaW.PrintMore
attribute [local go_sem] max2_int min2_int max_two min_two max_three min_three max_four min_four   -- for this text's walks alone
set_option linter.unusedVariables false
set_option linter.unusedSimpArgs false

/-! ### spec_l8Any: function 83 -/
mutual
def spec_l8Any.j0 : Nat → Int → List Int → Int → Int → List (S56) → Option (Int × (List (S56)) × Int × Int)
 | 0, _, _, _, _, _ => none
 | k + 1, x8, x1000, x1001, x226000, x226001 => (spec_l40Rd_pick.f k x1000 x1001 14).bind fun bt232 => (if bt232.1 = 0 then ((spec_l40Rd_pick.f k x1000 bt232.2 4).bind fun bt234 => (if bt234.1 = 0 then ((spec_l40Rd_num.f k x1000 bt234.2 (([(-1), 13, 0] : List Int))).bind fun bt239 => (some (bt239.1, x226001, x8, bt239.2))) else (if bt234.1 = 1 then (spec_l8Any.j1 k x8 bt234.1 (decide ((x226001.length : Int) > 0)) x1000 bt234.2 x226000 x226001) else (spec_l8Any.j1 k x8 bt234.1 false x1000 bt234.2 x226000 x226001)))) else (some (x226000, x226001, x8, bt232.2)))
def spec_l8Any.j1 : Nat → Int → Int → Bool → List Int → Int → Int → List (S56) → Option (Int × (List (S56)) × Int × Int)
 | 0, _, _, _, _, _, _, _ => none
 | k + 1, x8, x9, x50, x1000, x1001, x226000, x226001 => if x50 = true then (if 0 < (x226001.length : Int) then (if x226001.length < 5864062014805 then (some (x226000, (x226001 ++ [(⟨(rd_T56 x226001 0).f0, (rd_T56 x226001 0).f1, (rd_T56 x226001 0).f2⟩ : S56)]), x8, x1001)) else (none)) else (none)) else (if x9 = 2 then (spec_l8Any.j2 k x8 (decide ((x226001.length : Int) > 0)) x1000 x1001 x226000 x226001) else (spec_l8Any.j2 k x8 false x1000 x1001 x226000 x226001))
def spec_l8Any.j2 : Nat → Int → Bool → List Int → Int → Int → List (S56) → Option (Int × (List (S56)) × Int × Int)
 | 0, _, _, _, _, _, _ => none
 | k + 1, x8, x67, x1000, x1001, x226000, x226001 => if x67 = true then (if 0 < (x226001.length : Int) then ((spec_l40Rd_num.f k x1000 x1001 (([1, 2, (-1)] : List Int))).bind fun bt249 => (some (x226000, (x226001.set (0 : Int).toNat (⟨(rd_T56 x226001 0).f0, bt249.1, 1⟩ : S56)), x8, bt249.2))) else (none)) else ((spec_l40Rd_num.f k x1000 x1001 (([wrap64 ((x226001.length : Int) + 2), (-1)] : List Int))).bind fun bt255 => (some (x226000, x226001, bt255.1, bt255.2)))
end
def spec_l8Any.f (k : Nat) (s0_0 : List Int) (s0_1 : Int) (a1 : Int) : Option (Int × (List (S56)) × Int × Int) := (spec_l8Draw.f k s0_0 s0_1 a1).bind fun bt217 => (if 0 ≤ (wrap64 ((bt217.2.2.1.length : Int) - 1)) then (if (wrap64 ((bt217.2.2.1.length : Int) - 1)) < (bt217.2.2.1.length : Int) then ((spec_l40Rd_pick.f k s0_0 bt217.2.2.2 4).bind fun bt227 => (if bt227.1 = 0 then ((spec_l40Rd_pick.f k s0_0 bt227.2 (bt217.2.2.1.length : Int)).bind fun bt229 => (if 0 ≤ bt229.1 then (if bt229.1 < (bt217.2.2.1.length : Int) then (spec_l8Any.j0 k (rd bt217.2.2.1 bt229.1) s0_0 bt229.2 bt217.1 bt217.2.1) else (none)) else (none))) else (spec_l8Any.j0 k (rd bt217.2.2.1 (wrap64 ((bt217.2.2.1.length : Int) - 1))) s0_0 bt227.2 bt217.1 bt217.2.1))) else (none)) else (none))
theorem spec_l8Any.mono_l : ∀ k, (∀ y0 y1 y2 y3 y4, LeO (spec_l8Any.j0 k y0 y1 y2 y3 y4) (spec_l8Any.j0 (k + 1) y0 y1 y2 y3 y4)) ∧ (∀ y0 y1 y2 y3 y4 y5 y6, LeO (spec_l8Any.j1 k y0 y1 y2 y3 y4 y5 y6) (spec_l8Any.j1 (k + 1) y0 y1 y2 y3 y4 y5 y6)) ∧ (∀ y0 y1 y2 y3 y4 y5, LeO (spec_l8Any.j2 k y0 y1 y2 y3 y4 y5) (spec_l8Any.j2 (k + 1) y0 y1 y2 y3 y4 y5))
 | 0 => ⟨fun _ _ _ _ _ r h => by simp [spec_l8Any.j0] at h, fun _ _ _ _ _ _ _ r h => by simp [spec_l8Any.j1] at h, fun _ _ _ _ _ _ r h => by simp [spec_l8Any.j2] at h⟩
 | k + 1 => by
  obtain ⟨ih0, ih1, ih2⟩ := spec_l8Any.mono_l k
  refine ⟨?_, ?_, ?_⟩
  ·intro y0 y1 y2 y3 y4
   unfold spec_l8Any.j0
   repeat' first
   | (with_reducible exact ih0 _ _ _ _ _)
   | (with_reducible exact ih1 _ _ _ _ _ _ _)
   | (with_reducible exact ih2 _ _ _ _ _ _)
   | (with_reducible exact spec_l40Rd_num.mono _ _ _ _)
   | (with_reducible exact spec_l40Rd_pick.mono _ _ _ _)
   | (with_reducible exact spec_l8Draw.mono _ _ _ _)
   | (with_reducible exact LeO.refl _)
   | (with_reducible exact LeO.none _)
   | (with_reducible refine LeO.ite ?_ ?_)
   | (with_reducible refine LeO.bind ?_ (fun _ => ?_))
  ·intro y0 y1 y2 y3 y4 y5 y6
   unfold spec_l8Any.j1
   repeat' first
   | (with_reducible exact ih0 _ _ _ _ _)
   | (with_reducible exact ih1 _ _ _ _ _ _ _)
   | (with_reducible exact ih2 _ _ _ _ _ _)
   | (with_reducible exact spec_l40Rd_num.mono _ _ _ _)
   | (with_reducible exact spec_l40Rd_pick.mono _ _ _ _)
   | (with_reducible exact spec_l8Draw.mono _ _ _ _)
   | (with_reducible exact LeO.refl _)
   | (with_reducible exact LeO.none _)
   | (with_reducible refine LeO.ite ?_ ?_)
   | (with_reducible refine LeO.bind ?_ (fun _ => ?_))
  ·intro y0 y1 y2 y3 y4 y5
   unfold spec_l8Any.j2
   repeat' first
   | (with_reducible exact ih0 _ _ _ _ _)
   | (with_reducible exact ih1 _ _ _ _ _ _ _)
   | (with_reducible exact ih2 _ _ _ _ _ _)
   | (with_reducible exact spec_l40Rd_num.mono _ _ _ _)
   | (with_reducible exact spec_l40Rd_pick.mono _ _ _ _)
   | (with_reducible exact spec_l8Draw.mono _ _ _ _)
   | (with_reducible exact LeO.refl _)
   | (with_reducible exact LeO.none _)
   | (with_reducible refine LeO.ite ?_ ?_)
   | (with_reducible refine LeO.bind ?_ (fun _ => ?_))
theorem spec_l8Any.mono : ∀ a0 a1 a2 k, LeO (spec_l8Any.f k a0 a1 a2) (spec_l8Any.f (k + 1) a0 a1 a2) := by
 intro a0 a1 a2 k
 obtain ⟨ih0, ih1, ih2⟩ := spec_l8Any.mono_l k
 unfold spec_l8Any.f
 repeat' first
   | (with_reducible exact ih0 _ _ _ _ _)
   | (with_reducible exact ih1 _ _ _ _ _ _ _)
   | (with_reducible exact ih2 _ _ _ _ _ _)
   | (with_reducible exact spec_l40Rd_num.mono _ _ _ _)
   | (with_reducible exact spec_l40Rd_pick.mono _ _ _ _)
   | (with_reducible exact spec_l8Draw.mono _ _ _ _)
   | (with_reducible exact LeO.refl _)
   | (with_reducible exact LeO.none _)
   | (with_reducible refine LeO.ite ?_ ?_)
   | (with_reducible refine LeO.bind ?_ (fun _ => ?_))
def spec_l8Any.T10 : Bool × List (List Nat × List Nat) := (true, [([], []), ([0], [0]), ([], []), ([2], [2]), ([3], [3]), ([4], [4]), ([5], [5]), ([1, 6], [1, 6]), ([0, 1, 2, 3, 4, 5, 6, 7], []), ([8, 7, 7, 0, 1, 2, 3, 4, 5, 6, 7], [7, 8])])
def spec_l8Any.B10 : List Nat := [0, 1, 0, 4, 12, 28, 60, 127, 255, 511]
theorem spec_l8Any.tab10 : rtab .any (opsOf Try.f83 10) = spec_l8Any.T10 := by kernel_rfl
theorem spec_l8Any.bits10 : waitsOk spec_l8Any.T10.2 spec_l8Any.B10 = true := by kernel_rfl
def spec_l8Any.T12 : Bool × List (List Nat × List Nat) := (true, [([], []), ([0], [0]), ([], []), ([2], [2]), ([3], [3]), ([4], [4]), ([5], [5]), ([], []), ([], []), ([7, 8], [7, 8]), ([6, 9], [6, 9]), ([1, 0, 1, 2, 3, 4, 5, 6, 7, 8, 9, 10], [1]), ([11, 10, 9, 0, 1, 2, 3, 4, 5, 6, 7, 8, 9, 10], [10, 11])])
def spec_l8Any.B12 : List Nat := [0, 1, 0, 4, 12, 28, 60, 0, 0, 384, 1020, 2047, 4095]
theorem spec_l8Any.tab12 : rtab .any (opsOf Try.f83 12) = spec_l8Any.T12 := by kernel_rfl
theorem spec_l8Any.bits12 : waitsOk spec_l8Any.T12.2 spec_l8Any.B12 = true := by kernel_rfl
set_option maxHeartbeats 8000000 in
set_option maxRecDepth 100000 in
theorem spec_l8Any.calls (k : Nat) (g : Nat) (s0_0 : List Int) (s0_1 : Int) (a1 : Int) (r1 : Int) (r2 : List (S56)) (r3 : Int) (r4 : Int) (w0 w : World) (hI : IsS121 w0 w g s0_0 s0_1) (hB : Below w0.heap.size w0 w) (h : spec_l8Any.f k s0_0 s0_1 a1 = some (r1, r2, r3, r4)) :
  Calls Try.prog 83 #[.pointer (some ⟨g, 0, none⟩), .int .i64 a1] w fun e w' => ∃ v1_ : Value, e = .returned (.tuple #[.agg #[.int .i64 r1, v1_], .int .i64 r3]) ∧ Kd.R k56 56 w' w.heap.size (fun _ => True) v1_ r2 ∧ IsS121 w0 w' g s0_0 r4 ∧ Below w0.heap.size w0 w' ∧ KeepBut w w' g none := by
 have hu48 := Try.underlying48
 have hu56 := Try.underlying56
 have HI0 := Aside0.mk hI
 have HK := Aside0.mk (KeepBut.refl w g none)
 have HL := Aside0.mk hB.size
 clear hI
 have HW0 := Aside0.mk hB.size
 have HB := Aside0.mk hB
 clear hB
 have H : ((spec_l8Draw.f k s0_0 s0_1 a1).bind fun bt217 => (if 0 ≤ (wrap64 ((bt217.2.2.1.length : Int) - 1)) then (if (wrap64 ((bt217.2.2.1.length : Int) - 1)) < (bt217.2.2.1.length : Int) then ((spec_l40Rd_pick.f k s0_0 bt217.2.2.2 4).bind fun bt227 => (if bt227.1 = 0 then ((spec_l40Rd_pick.f k s0_0 bt227.2 (bt217.2.2.1.length : Int)).bind fun bt229 => (if 0 ≤ bt229.1 then (if bt229.1 < (bt217.2.2.1.length : Int) then (spec_l8Any.j0 k (rd bt217.2.2.1 bt229.1) s0_0 bt229.2 bt217.1 bt217.2.1) else (none)) else (none))) else (spec_l8Any.j0 k (rd bt217.2.2.1 (wrap64 ((bt217.2.2.1.length : Int) - 1))) s0_0 bt227.2 bt217.1 bt217.2.1))) else (none)) else (none))) = some (r1, r2, r3, r4) := h
 clear h
 replace H := Option.bind_eq_some_iff.mp H
 obtain ⟨⟨t217, t218, t221, t224⟩, A30, H⟩ := H
 replace H : (if 0 ≤ (wrap64 ((t221.length : Int) - 1)) then (if (wrap64 ((t221.length : Int) - 1)) < (t221.length : Int) then ((spec_l40Rd_pick.f k s0_0 t224 4).bind fun bt227 => (if bt227.1 = 0 then ((spec_l40Rd_pick.f k s0_0 bt227.2 (t221.length : Int)).bind fun bt229 => (if 0 ≤ bt229.1 then (if bt229.1 < (t221.length : Int) then (spec_l8Any.j0 k (rd t221 bt229.1) s0_0 bt229.2 t217 t218) else (none)) else (none))) else (spec_l8Any.j0 k (rd t221 (wrap64 ((t221.length : Int) - 1))) s0_0 bt227.2 t217 t218))) else (none)) else (none)) = some (r1, r2, r3, r4) := H
 have A3 := Aside0.mk A30
 clear A30
 obtain ⟨ji4, hji4⟩ : ∃ j_ : Int, (wrap64 ((t221.length : Int) - 1)) = j_ := ⟨_, rfl⟩
 replace H : (if 0 ≤ (ji4) then (if (ji4) < (t221.length : Int) then ((spec_l40Rd_pick.f k s0_0 t224 4).bind fun bt227 => (if bt227.1 = 0 then ((spec_l40Rd_pick.f k s0_0 bt227.2 (t221.length : Int)).bind fun bt229 => (if 0 ≤ bt229.1 then (if bt229.1 < (t221.length : Int) then (spec_l8Any.j0 k (rd t221 bt229.1) s0_0 bt229.2 t217 t218) else (none)) else (none))) else (spec_l8Any.j0 k (rd t221 (ji4)) s0_0 bt227.2 t217 t218))) else (none)) else (none)) = some (r1, r2, r3, r4) := by first | (rw [hji4] at H; exact H) | (simp only [hji4] at H ⊢; exact H)
 (try rw [hji4] at A3)
 have hji4w : (IntKind.i64.wrap ((t221.length : Int) - 1)) = ji4 := (i64_w _).trans hji4
 by_cases c5 : 0 ≤ (ji4)
 ·rw [if_pos c5] at H
  have c5b0 : decide (0 ≤ (ji4)) = true := decide_eq_true c5
  clear c5
  by_cases c6 : (ji4) < (t221.length : Int)
  ·rw [if_pos c6] at H
   have c6b0 : decide ((ji4) < (t221.length : Int)) = true := decide_eq_true c6
   clear c6
   replace H := Option.bind_eq_some_iff.mp H
   obtain ⟨⟨t227, t228⟩, A70, H⟩ := H
   replace H : (if t227 = 0 then ((spec_l40Rd_pick.f k s0_0 t228 (t221.length : Int)).bind fun bt229 => (if 0 ≤ bt229.1 then (if bt229.1 < (t221.length : Int) then (spec_l8Any.j0 k (rd t221 bt229.1) s0_0 bt229.2 t217 t218) else (none)) else (none))) else (spec_l8Any.j0 k (rd t221 (ji4)) s0_0 t228 t217 t218)) = some (r1, r2, r3, r4) := H
   have A7 := Aside0.mk A70
   clear A70
   have HC8 := Aside0.mk H
   clear H
   go_enter Try.func83, Try.ntmps83
   go_upto_if 24 with (first | ((with_reducible refine gate_dst (N := 4) rfl ?_); (try (refine gate_guard (by rfl) ?_; dsimp only)); refine box_event ?hg (N := 4) ?hd (cs := #[.int .i64 0, .slice none 0 0]) (t := 48) ?hr ?_; (case hd => rfl); (case hg => rfl); (case hr => first | (go_simp; done) | (go_simp; rfl)); intro gb216 hg w9 hbox hb; have n0_ := Aside0.mk (IsS121.below (by repeat (first | (with_reducible first | exact HI0.out | apply IsS121.alloc | apply IsS121.drewN | apply IsS121.drew | apply IsS121.set_1) | exact HI0.out)) hb); have n1_ := Aside0.mk (KeepBut.trans (by repeat (first | (with_reducible first | exact HK.out | apply KeepBut.set_ | apply keep_drewN | apply keep_drew | apply keep_alloc) | exact HK.out)) (KeepBut.of_below hb g none) (.inl rfl)); have n2_ := Aside0.mk (below_step (by repeat (first | (with_reducible first | exact HB.out | apply bwA | apply bwN | apply bwD | refine below_set ?_ (IsS121.ge HI0.out)) | exact HB.out)) hb); have n3_ := Aside0.mk (hbox); have n4_ := Aside0.mk ((by rw [hg]; exact (keep_size (w := w) (g := g) (row := none) (by repeat (first | (with_reducible first | exact HK.out | apply KeepBut.set_ | apply keep_drewN | apply keep_drew | apply keep_alloc) | exact HK.out))) : w.heap.size ≤ gb216)); have n5_ := Aside0.mk ((Nat.le_trans HW0.out (by rw [hg]; exact (keep_size (w := w) (g := g) (row := none) (by repeat (first | (with_reducible first | exact HK.out | apply KeepBut.set_ | apply keep_drewN | apply keep_drew | apply keep_alloc) | exact HK.out))) : w.heap.size ≤ gb216) : w0.heap.size ≤ gb216)); have n6_ := Aside0.mk ((by rw [hg]; exact Nat.ne_of_lt (IsS121.lt (show IsS121 w0 _ g s0_0 s0_1 from by repeat (first | (with_reducible first | exact HI0.out | apply IsS121.alloc | apply IsS121.drewN | apply IsS121.drew | apply IsS121.set_1) | exact HI0.out))) : g ≠ gb216)); have n7_ := Aside0.mk ((by rw [hg]; exact Nat.ne_of_gt (IsS121.lt (show IsS121 w0 _ g s0_0 s0_1 from by repeat (first | (with_reducible first | exact HI0.out | apply IsS121.alloc | apply IsS121.drewN | apply IsS121.drew | apply IsS121.set_1) | exact HI0.out))) : gb216 ≠ g)); clear HI0; clear HK; clear HB; have HI0 := n0_; have HK := n1_; have HB := n2_; have BK216 := n3_; have GW216 := n4_; have GE216 := n5_; have NB0_216 := n6_; have NB216_0 := n7_; clear n0_ n1_ n2_ n3_ n4_ n5_ n6_ n7_; clear hb hbox hg) | ((with_reducible refine gate_callee (f := 116) rfl ?_); refine goesL_ (some 13) rfl rfl Try.func116 (by kernel_rfl) rfl #[.pointer (some ⟨g, 0, none⟩), .int .i64 a1] rfl lmB ?_; (with_reducible refine (spec_l8Draw.calls k g s0_0 s0_1 a1 t217 t218 t221 t224 w0 _ ?side1 ?side2 A3.out).mono ?_); (case side1 => repeat (first | (with_reducible first | exact HI0.out | apply IsS121.alloc | apply IsS121.drewN | apply IsS121.drew | apply IsS121.set_1 | refine IsS121.far ?_ NB0_216.out _) | exact HI0.out)); (case side2 => repeat (first | (with_reducible first | exact HB.out | apply bwA | apply bwN | apply bwD | refine below_set ?_ (IsS121.ge HI0.out) | refine below_set ?_ GE216.out) | exact HB.out)); rintro e w10 ⟨v219, v222, rfl, ho0, ho1, hi, hb, hk⟩; refine ⟨_, rfl, ?_⟩; have n0_ := Aside0.mk (KeepBut.blk hk (g' := gb216) (o := .cells #[.int .i64 0, .slice none 0 0] 48 (0, 0)) (bvK BK216.out) NB216_0.out (by simp)); have n1_ := Aside0.mk (Kd.R_lower ho0 (keep_size (w := w) (g := g) (row := none) (by repeat (first | (with_reducible first | exact HK.out | apply KeepBut.set_ | apply keep_drewN | apply keep_drew | apply keep_alloc | refine keep_far ?_ GW216.out _) | exact HK.out)))); have n2_ := Aside0.mk (Kd.R_lower ho1 (keep_size (w := w) (g := g) (row := none) (by repeat (first | (with_reducible first | exact HK.out | apply KeepBut.set_ | apply keep_drewN | apply keep_drew | apply keep_alloc | refine keep_far ?_ GW216.out _) | exact HK.out)))); have n3_ := Aside0.mk (KeepBut.trans (by repeat (first | (with_reducible first | exact HK.out | apply KeepBut.set_ | apply keep_drewN | apply keep_drew | apply keep_alloc | refine keep_far ?_ GW216.out _) | exact HK.out)) hk (.inl rfl)); have n4_ := Aside0.mk (hb); have n5_ := Aside0.mk (hi); clear BK216; clear HK; clear HB; clear HI0; have BK216 := n0_; have HO220 := n1_; have HO223 := n2_; have HK := n3_; have HB := n4_; have HI0 := n5_; clear n0_ n1_ n2_ n3_ n4_ n5_; (try clear hb); (try clear hb2); (try clear hk); (try clear hi); (try clear ho0); (try clear ho1)) | ((with_reducible refine gate_dst (N := 6) rfl ?_); (try (refine gate_guard (by rfl) ?_; dsimp only)); refine box_event ?hg (N := 6) ?hd (cs := #[.int .i64 0, .slice none 0 0]) (t := 48) ?hr ?_; (case hd => rfl); (case hg => rfl); (case hr => first | (go_simp; done) | (go_simp; rfl)); intro gb225 hg w11 hbox hb; have n0_ := Aside0.mk (Kd.R_below (rvR HO220.out) hb); have n1_ := Aside0.mk (Kd.R_below (rvR HO223.out) hb); have n2_ := Aside0.mk (IsS121.below (by repeat (first | (with_reducible first | exact HI0.out | apply IsS121.alloc | apply IsS121.drewN | apply IsS121.drew | apply IsS121.set_1 | refine IsS121.far ?_ NB0_216.out _) | exact HI0.out)) hb); have n3_ := Aside0.mk (blk_below (g := gb216) (o := .cells #[.int .i64 0, .slice none 0 0] 48 (0, 0)) (bvK BK216.out) hb); have n4_ := Aside0.mk (KeepBut.trans (by repeat (first | (with_reducible first | exact HK.out | apply KeepBut.set_ | apply keep_drewN | apply keep_drew | apply keep_alloc | refine keep_far ?_ GW216.out _) | exact HK.out)) (KeepBut.of_below hb g none) (.inl rfl)); have n5_ := Aside0.mk (below_step (by repeat (first | (with_reducible first | exact HB.out | apply bwA | apply bwN | apply bwD | refine below_set ?_ (IsS121.ge HI0.out) | refine below_set ?_ GE216.out) | exact HB.out)) hb); have n6_ := Aside0.mk (hbox); have n7_ := Aside0.mk ((by rw [hg]; exact (keep_size (w := w) (g := g) (row := none) (by repeat (first | (with_reducible first | exact HK.out | apply KeepBut.set_ | apply keep_drewN | apply keep_drew | apply keep_alloc | refine keep_far ?_ GW216.out _) | exact HK.out))) : w.heap.size ≤ gb225)); have n8_ := Aside0.mk ((Nat.le_trans HW0.out (by rw [hg]; exact (keep_size (w := w) (g := g) (row := none) (by repeat (first | (with_reducible first | exact HK.out | apply KeepBut.set_ | apply keep_drewN | apply keep_drew | apply keep_alloc | refine keep_far ?_ GW216.out _) | exact HK.out))) : w.heap.size ≤ gb225) : w0.heap.size ≤ gb225)); have n9_ := Aside0.mk ((by rw [hg]; exact Nat.ne_of_lt (blk_lt (g := gb216) (o := .cells #[.int .i64 0, .slice none 0 0] 48 (0, 0)) (bvK BK216.out)) : gb216 ≠ gb225)); have n10_ := Aside0.mk ((by rw [hg]; exact Nat.ne_of_gt (blk_lt (g := gb216) (o := .cells #[.int .i64 0, .slice none 0 0] 48 (0, 0)) (bvK BK216.out)) : gb225 ≠ gb216)); have n11_ := Aside0.mk ((by rw [hg]; exact Nat.ne_of_lt (IsS121.lt (show IsS121 w0 _ g s0_0 t224 from by repeat (first | (with_reducible first | exact HI0.out | apply IsS121.alloc | apply IsS121.drewN | apply IsS121.drew | apply IsS121.set_1 | refine IsS121.far ?_ NB0_216.out _) | exact HI0.out))) : g ≠ gb225)); have n12_ := Aside0.mk ((by rw [hg]; exact Nat.ne_of_gt (IsS121.lt (show IsS121 w0 _ g s0_0 t224 from by repeat (first | (with_reducible first | exact HI0.out | apply IsS121.alloc | apply IsS121.drewN | apply IsS121.drew | apply IsS121.set_1 | refine IsS121.far ?_ NB0_216.out _) | exact HI0.out))) : gb225 ≠ g)); clear HO220; clear HO223; clear HI0; clear BK216; clear HK; clear HB; have HO220 := n0_; have HO223 := n1_; have HI0 := n2_; have BK216 := n3_; have HK := n4_; have HB := n5_; have BK225 := n6_; have GW225 := n7_; have GE225 := n8_; have NB216_225 := n9_; have NB225_216 := n10_; have NB0_225 := n11_; have NB225_0 := n12_; clear n0_ n1_ n2_ n3_ n4_ n5_ n6_ n7_ n8_ n9_ n10_ n11_ n12_; clear hb hbox hg; have hnb12 := NB225_216.out; have hnc12 := NB216_225.out; have hnb13 := NB225_0.out; have hnc13 := NB0_225.out; have hcz14_0 : w11.cell? ⟨gb225, 0, none⟩ = some (.int .i64 0) := (blk_cell BK225.out 0).trans rfl; have hcz14_1 : w11.cell? ⟨gb225, 1, none⟩ = some (.slice none 0 0) := (blk_cell BK225.out 1).trans rfl; have hfz14_0 := blk_frozen BK225.out 0; have hfz14_1 := blk_frozen BK225.out 1; obtain ⟨Ao15, co15, eo15⟩ := Kd.R_slice HO220.out; subst eo15; obtain ⟨Ao16, co16, eo16⟩ := Kd.R_slice HO223.out; subst eo16; have p226 : 0 ≤ ((ji4) : Int) := oda; have q226 : (ji4) < (t221.length : Int) := oda; obtain ⟨ad226, e226, hx226_0⟩ := Kd.at_int (Kd.R_reads' HO223.out).2.2 (ji4) p226 q226; cases e226; have hn226_0 : ad226.block ≠ gb225 := Kd.own_blk (Kd.R_ne HO223.out BK225.out (by decide)); have hn226_1 : ad226.block ≠ gb225 := Kd.own_blk (Kd.R_ne HO223.out BK225.out (by decide)); replace hx226_0 := (cell_far (p := ⟨gb225, 0, none⟩) (fnb hn226_0) (.int .i64 t217)).trans hx226_0; replace hx226_0 := (cell_far (p := ⟨gb225, 1, none⟩) (fnb hn226_1) (.slice Ao15 t218.length co15)).trans hx226_0; clear hn226_0; clear hn226_1; replace p226 := eq_true p226; replace q226 := eq_true q226) | ((with_reducible refine gate_callee (f := 79) rfl ?_); refine goesL_ (some 23) rfl rfl Try.func79 (by kernel_rfl) rfl #[.pointer (some ⟨g, 0, none⟩), .int .i64 4] rfl lmB ?_; (with_reducible refine (spec_l40Rd_pick.calls k g s0_0 t224 4 t227 t228 w0 _ ?side1 ?side2 A7.out).mono ?_); (case side1 => repeat (first | (with_reducible first | exact HI0.out | apply IsS121.alloc | apply IsS121.drewN | apply IsS121.drew | apply IsS121.set_1 | refine IsS121.far ?_ NB0_216.out _ | refine IsS121.far ?_ NB0_225.out _) | exact HI0.out)); (case side2 => repeat (first | (with_reducible first | exact HB.out | apply bwA | apply bwN | apply bwD | refine below_set ?_ (IsS121.ge HI0.out) | refine below_set ?_ GE216.out | refine below_set ?_ GE225.out) | exact HB.out)); rintro e w17 ⟨rfl, hi, hb, hk⟩; refine ⟨_, rfl, ?_⟩; have n0_ := Aside0.mk (KeepBut.blk hk (g' := gb216) (o := .cells #[.int .i64 0, .slice none 0 0] 48 (0, 0)) (by (with_reducible repeat first | apply bkN | apply bkD | apply bkA); refine blk_far ?_ NB216_225.out _; (with_reducible repeat first | apply bkN | apply bkD | apply bkA); refine blk_far ?_ NB216_225.out _; (with_reducible repeat first | apply bkN | apply bkD | apply bkA); exact BK216.out) NB216_0.out (by simp)); have n1_ := Aside0.mk (Kd.R_mono (Kd.R_keep (IsS121.apart (show IsS121 w0 _ g s0_0 t224 from by repeat (first | (with_reducible first | exact HI0.out | apply IsS121.alloc | apply IsS121.drewN | apply IsS121.drew | apply IsS121.set_1 | refine IsS121.far ?_ NB0_216.out _ | refine IsS121.far ?_ NB0_225.out _) | exact HI0.out)) (by (with_reducible repeat first | apply rvA | apply rvN | apply rvD); exact (Kd.R_mono (Kd.R_far (p := ⟨gb225, 1, none⟩) (Kd.R_far (p := ⟨gb225, 0, none⟩) (Kd.R_types HO220.out BK225.out (by decide)) (fun _ hk => hk.2) (.int .i64 t217)) (fun _ hk => hk.2) (.slice Ao15 t218.length co15)) (fun _ h_ => h_.1))) (by decide)) hk (fun _ h => h.2)) (fun _ h => h.1)); have n2_ := Aside0.mk (Kd.R_mono (Kd.R_keep (IsS121.apart (show IsS121 w0 _ g s0_0 t224 from by repeat (first | (with_reducible first | exact HI0.out | apply IsS121.alloc | apply IsS121.drewN | apply IsS121.drew | apply IsS121.set_1 | refine IsS121.far ?_ NB0_216.out _ | refine IsS121.far ?_ NB0_225.out _) | exact HI0.out)) (by (with_reducible repeat first | apply rvA | apply rvN | apply rvD); exact (Kd.R_mono (Kd.R_far (p := ⟨gb225, 1, none⟩) (Kd.R_far (p := ⟨gb225, 0, none⟩) (Kd.R_types HO223.out BK225.out (by decide)) (fun _ hk => hk.2) (.int .i64 t217)) (fun _ hk => hk.2) (.slice Ao15 t218.length co15)) (fun _ h_ => h_.1))) (by decide)) hk (fun _ h => h.2)) (fun _ h => h.1)); have n3_ := Aside0.mk (KeepBut.blk hk (g' := gb225) (o := .cells #[.int .i64 t217, .slice Ao15 t218.length co15] 48 (0, 0)) (by (with_reducible repeat first | apply bkN | apply bkD | apply bkA); refine blk_put (cs := #[.int .i64 t217, .slice none 0 0]) ?_ 1 _ rfl; (with_reducible repeat first | apply bkN | apply bkD | apply bkA); refine blk_put (cs := #[.int .i64 0, .slice none 0 0]) ?_ 0 _ rfl; (with_reducible repeat first | apply bkN | apply bkD | apply bkA); exact BK225.out) NB225_0.out (by simp)); have n4_ := Aside0.mk (KeepBut.trans (by repeat (first | (with_reducible first | exact HK.out | apply KeepBut.set_ | apply keep_drewN | apply keep_drew | apply keep_alloc | refine keep_far ?_ GW216.out _ | refine keep_far ?_ GW225.out _) | exact HK.out)) hk (.inl rfl)); have n5_ := Aside0.mk (hb); have n6_ := Aside0.mk (hi); clear BK216; clear HO220; clear HO223; clear BK225; clear HK; clear HB; clear HI0; have BK216 := n0_; have HO220 := n1_; have HO223 := n2_; have BK225 := n3_; have HK := n4_; have HB := n5_; have HI0 := n6_; clear n0_ n1_ n2_ n3_ n4_ n5_ n6_; (try clear hb); (try clear hb2); (try clear hk); (try clear hi)))
   (try simp only [Act.put, List.setIfInBounds_toArray, List.set_cons_zero, List.set_cons_succ])
   go_cut [8] (fun v8 wc => ∃ (kq : Nat) (x8_7 : Int) (x1001_7 : Int), v8 = .int .i64 x8_7 ∧ Aside0 (spec_l8Any.j0 kq x8_7 s0_0 x1001_7 t217 t218 = some (r1, r2, r3, r4)) ∧ Aside0 (kq ≤ k) ∧ Aside0 (Kd.R k56 56 wc w.heap.size (fun _ => True) (.slice Ao15 t218.length co15) t218) ∧ Aside0 (wc.heap[gb216]? = some (.cells #[.int .i64 0, (.slice none 0 0)] 48 (0, 0))) ∧ Aside0 (wc.heap[gb225]? = some (.cells #[.int .i64 t217, (.slice Ao15 t218.length co15)] 48 (0, 0))) ∧ Aside0 (IsS121 w0 wc g s0_0 x1001_7) ∧ Aside0 (KeepBut w wc g none) ∧ Aside0 (Below w0.heap.size w0 wc))
   case first =>
    have H := HC8.out
    clear HC8
    by_cases c18 : t227 = 0
    ·rw [if_pos c18] at H
     have c18b0 : (t227 == 0) = true := beq_iff_eq.mpr c18
     have c18b1 : (t227 != 0) = false := bne_eq_false_iff_eq.mpr c18
     clear c18
     (first | rw [c18b0] | (simp only [i64_w, i32_w]; rw [c18b0]) | skip)
     replace H := Option.bind_eq_some_iff.mp H
     obtain ⟨⟨t229, t230⟩, A190, H⟩ := H
     replace H : (if 0 ≤ t229 then (if t229 < (t221.length : Int) then (spec_l8Any.j0 k (rd t221 t229) s0_0 t230 t217 t218) else (none)) else (none)) = some (r1, r2, r3, r4) := H
     have A19 := Aside0.mk A190
     clear A190
     by_cases c20 : 0 ≤ t229
     ·rw [if_pos c20] at H
      have c20b0 : decide (0 ≤ t229) = true := decide_eq_true c20
      clear c20
      by_cases c21 : t229 < (t221.length : Int)
      ·rw [if_pos c21] at H
       have c21b0 : decide (t229 < (t221.length : Int)) = true := decide_eq_true c21
       clear c21
       have H' := Aside0.mk H
       clear H
       go_wp2_with (first | ((with_reducible refine gate_callee (f := 79) rfl ?_); refine goesL_ (some 29) rfl rfl Try.func79 (by kernel_rfl) rfl #[.pointer (some ⟨g, 0, none⟩), .int .i64 (t221.length : Int)] rfl lmB ?_; (with_reducible refine (spec_l40Rd_pick.calls k g s0_0 t228 (t221.length : Int) t229 t230 w0 _ ?side1 ?side2 A19.out).mono ?_); (case side1 => repeat (first | (with_reducible first | exact HI0.out | apply IsS121.alloc | apply IsS121.drewN | apply IsS121.drew | apply IsS121.set_1 | refine IsS121.far ?_ NB0_216.out _ | refine IsS121.far ?_ NB0_225.out _) | exact HI0.out)); (case side2 => repeat (first | (with_reducible first | exact HB.out | apply bwA | apply bwN | apply bwD | refine below_set ?_ (IsS121.ge HI0.out) | refine below_set ?_ GE216.out | refine below_set ?_ GE225.out) | exact HB.out)); rintro e w22 ⟨rfl, hi, hb, hk⟩; refine ⟨_, rfl, ?_⟩; have n0_ := Aside0.mk (KeepBut.blk hk (g' := gb216) (o := .cells #[.int .i64 0, .slice none 0 0] 48 (0, 0)) (bvK BK216.out) NB216_0.out (by simp)); have n1_ := Aside0.mk (Kd.R_mono (Kd.R_keep (IsS121.apart (show IsS121 w0 _ g s0_0 t228 from by repeat (first | (with_reducible first | exact HI0.out | apply IsS121.alloc | apply IsS121.drewN | apply IsS121.drew | apply IsS121.set_1 | refine IsS121.far ?_ NB0_216.out _ | refine IsS121.far ?_ NB0_225.out _) | exact HI0.out)) (rvR HO220.out) (by decide)) hk (fun _ h => h.2)) (fun _ h => h.1)); have n2_ := Aside0.mk (Kd.R_mono (Kd.R_keep (IsS121.apart (show IsS121 w0 _ g s0_0 t228 from by repeat (first | (with_reducible first | exact HI0.out | apply IsS121.alloc | apply IsS121.drewN | apply IsS121.drew | apply IsS121.set_1 | refine IsS121.far ?_ NB0_216.out _ | refine IsS121.far ?_ NB0_225.out _) | exact HI0.out)) (rvR HO223.out) (by decide)) hk (fun _ h => h.2)) (fun _ h => h.1)); have n3_ := Aside0.mk (KeepBut.blk hk (g' := gb225) (o := .cells #[.int .i64 t217, .slice Ao15 t218.length co15] 48 (0, 0)) (bvK BK225.out) NB225_0.out (by simp)); have n4_ := Aside0.mk (KeepBut.trans (by repeat (first | (with_reducible first | exact HK.out | apply KeepBut.set_ | apply keep_drewN | apply keep_drew | apply keep_alloc | refine keep_far ?_ GW216.out _ | refine keep_far ?_ GW225.out _) | exact HK.out)) hk (.inl rfl)); have n5_ := Aside0.mk (hb); have n6_ := Aside0.mk (hi); clear BK216; clear HO220; clear HO223; clear BK225; clear HK; clear HB; clear HI0; have BK216 := n0_; have HO220 := n1_; have HO223 := n2_; have BK225 := n3_; have HK := n4_; have HB := n5_; have HI0 := n6_; clear n0_ n1_ n2_ n3_ n4_ n5_ n6_; (try clear hb); (try clear hb2); (try clear hk); (try clear hi); have p231 : 0 ≤ (t229 : Int) := oda; have q231 : t229 < (t221.length : Int) := oda; obtain ⟨ad231, e231, hx231_0⟩ := Kd.at_int (Kd.R_reads' HO223.out).2.2 t229 p231 q231; obtain rfl : ad226 = ad231 := (by injection e231); replace p231 := eq_true p231; replace q231 := eq_true q231))
       go_meet
       case rel => exact ⟨_, (rd t221 t229), (t230), rsd, H', ⟨by first | omega | exact Nat.le_refl _⟩, ⟨rvR HO220.out⟩, ⟨bvK BK216.out⟩, ⟨bvK BK225.out⟩, ⟨by repeat (first | (with_reducible first | exact HI0.out | apply IsS121.alloc | apply IsS121.drewN | apply IsS121.drew | apply IsS121.set_1 | refine IsS121.far ?_ NB0_216.out _ | refine IsS121.far ?_ NB0_225.out _) | exact HI0.out)⟩, ⟨by repeat (first | (with_reducible first | exact HK.out | apply KeepBut.set_ | apply keep_drewN | apply keep_drew | apply keep_alloc | refine keep_far ?_ GW216.out _ | refine keep_far ?_ GW225.out _) | exact HK.out)⟩, ⟨by repeat (first | (with_reducible first | exact HB.out | apply bwA | apply bwN | apply bwD | refine below_set ?_ (IsS121.ge HI0.out) | refine below_set ?_ GE216.out | refine below_set ?_ GE225.out) | exact HB.out)⟩⟩
      ·rw [if_neg c21] at H
       exact absurd H (by simp)
     ·rw [if_neg c20] at H
      exact absurd H (by simp)
    ·rw [if_neg c18] at H
     have c18b0 : (t227 == 0) = false := beq_eq_false_iff_ne.mpr c18
     have c18b1 : (t227 != 0) = true := bne_iff_ne.mpr c18
     (first | rw [c18b0] | (simp only [i64_w, i32_w]; rw [c18b0]) | skip)
     have H' := Aside0.mk H
     clear H
     go_wp2
     go_meet
     case rel => exact ⟨_, (rd t221 (ji4)), (t228), (by first | rfl | (simp; done) | (simp only [← hji4] <;> (first | rfl | simp)) | (simp [*]; done)), H', ⟨by first | omega | exact Nat.le_refl _⟩, ⟨rvR HO220.out⟩, ⟨bvK BK216.out⟩, ⟨bvK BK225.out⟩, ⟨by repeat (first | (with_reducible first | exact HI0.out | apply IsS121.alloc | apply IsS121.drewN | apply IsS121.drew | apply IsS121.set_1 | refine IsS121.far ?_ NB0_216.out _ | refine IsS121.far ?_ NB0_225.out _) | exact HI0.out)⟩, ⟨by repeat (first | (with_reducible first | exact HK.out | apply KeepBut.set_ | apply keep_drewN | apply keep_drew | apply keep_alloc | refine keep_far ?_ GW216.out _ | refine keep_far ?_ GW225.out _) | exact HK.out)⟩, ⟨by repeat (first | (with_reducible first | exact HB.out | apply bwA | apply bwN | apply bwD | refine below_set ?_ (IsS121.ge HI0.out) | refine below_set ?_ GE216.out | refine below_set ?_ GE225.out) | exact HB.out)⟩⟩
   case rest =>
    clear HC8
    try clear c1
    try clear c2
    try clear p2
    try clear q2
    try clear hx2
    try clear c5
    try clear c5b0
    try clear c6
    try clear c6b0
    try clear p6
    try clear c7
    try clear c8
    try clear c11
    try clear c12
    try clear c13
    try clear c18
    try clear c18b0
    try clear c18b1
    try clear c20
    try clear c20b0
    try clear c21
    try clear c21b0
    try clear p22
    try clear q22
    try clear hx22
    try clear hcz14_0
    try clear hcz14_1
    try clear hfz14_0
    try clear hfz14_1
    try clear hx226_0
    try clear hx231_0
    try clear p226
    try clear p231
    try clear q226
    try clear q231
    obtain ⟨kq, x8_7, x1001_7, rfl, HA, HJ7, HO_226001, BK216, BK225, HI0, HK, HB⟩ := hcut
    cases kq with
    | zero => exact absurd HA.out (by simp [spec_l8Any.j0])
    | succ kj7 =>
     have H := HA.out
     clear HA
     simp only [spec_l8Any.j0] at H
     replace H := Option.bind_eq_some_iff.mp H
     obtain ⟨⟨t232, t233⟩, A230, H⟩ := H
     replace H : (if t232 = 0 then ((spec_l40Rd_pick.f kj7 s0_0 t233 4).bind fun bt234 => (if bt234.1 = 0 then ((spec_l40Rd_num.f kj7 s0_0 bt234.2 (([(-1), 13, 0] : List Int))).bind fun bt239 => (some (bt239.1, t218, x8_7, bt239.2))) else (if bt234.1 = 1 then (spec_l8Any.j1 kj7 x8_7 bt234.1 (decide ((t218.length : Int) > 0)) s0_0 bt234.2 t217 t218) else (spec_l8Any.j1 kj7 x8_7 bt234.1 false s0_0 bt234.2 t217 t218)))) else (some (t217, t218, x8_7, t233))) = some (r1, r2, r3, r4) := H
     have A23 := Aside0.mk A230
     clear A230
     by_cases c24 : t232 = 0
     ·rw [if_pos c24] at H
      have c24b0 : (t232 == 0) = true := beq_iff_eq.mpr c24
      have c24b1 : (t232 != 0) = false := bne_eq_false_iff_eq.mpr c24
      clear c24
      replace H := Option.bind_eq_some_iff.mp H
      obtain ⟨⟨t234, t235⟩, A250, H⟩ := H
      replace H : (if t234 = 0 then ((spec_l40Rd_num.f kj7 s0_0 t235 (([(-1), 13, 0] : List Int))).bind fun bt239 => (some (bt239.1, t218, x8_7, bt239.2))) else (if t234 = 1 then (spec_l8Any.j1 kj7 x8_7 t234 (decide ((t218.length : Int) > 0)) s0_0 t235 t217 t218) else (spec_l8Any.j1 kj7 x8_7 t234 false s0_0 t235 t217 t218))) = some (r1, r2, r3, r4) := H
      have A25 := Aside0.mk A250
      clear A250
      by_cases c26 : t234 = 0
      ·rw [if_pos c26] at H
       have c26b0 : (t234 == 0) = true := beq_iff_eq.mpr c26
       have c26b1 : (t234 != 0) = false := bne_eq_false_iff_eq.mpr c26
       clear c26
       obtain ⟨y236, hy236⟩ : ∃ y_ : List Int, y_ = (([(-1), 13, 0] : List Int)) := ⟨_, rfl⟩
       replace H : ((spec_l40Rd_num.f kj7 s0_0 t235 y236).bind fun bt239 => (some (bt239.1, t218, x8_7, bt239.2))) = some (r1, r2, r3, r4) := by first | (rw [hy236]; with_reducible exact H) | (have H2_ := (Option.bind_some _ _).symm.trans H; rw [hy236]; with_reducible exact H2_) | (have H2_ := (Option.bind_some _ _).symm.trans H; with_reducible exact H2_) | with_reducible exact H | (rw [hy236]; exact H) | exact H
       have Ny236 := Aside0.mk hy236
       clear hy236
       replace H := Option.bind_eq_some_iff.mp H
       obtain ⟨⟨t239, t240⟩, A270, H⟩ := H
       replace H : (some (t239, t218, x8_7, t240)) = some (r1, r2, r3, r4) := H
       have A27 := Aside0.mk A270
       clear A270
       simp only [Option.some.injEq, Prod.mk.injEq] at H
       obtain ⟨rfl, rfl, rfl, rfl⟩ := H
       go_wp2_with (first | ((with_reducible refine gate_callee (f := 79) rfl ?_); refine goesL_ (some 33) rfl rfl Try.func79 (by kernel_rfl) rfl #[.pointer (some ⟨g, 0, none⟩), .int .i64 14] rfl lmB ?_; (with_reducible refine (spec_l40Rd_pick.calls kj7 g s0_0 x1001_7 14 t232 t233 w0 _ ?side1 ?side2 A23.out).mono ?_); (case side1 => repeat (first | (with_reducible first | exact HI0.out | apply IsS121.alloc | apply IsS121.drewN | apply IsS121.drew | apply IsS121.set_1 | refine IsS121.far ?_ NB0_216.out _ | refine IsS121.far ?_ NB0_225.out _) | exact HI0.out)); (case side2 => repeat (first | (with_reducible first | exact HB.out | apply bwA | apply bwN | apply bwD | refine below_set ?_ (IsS121.ge HI0.out) | refine below_set ?_ GE216.out | refine below_set ?_ GE225.out) | exact HB.out)); rintro e w28 ⟨rfl, hi, hb, hk⟩; refine ⟨_, rfl, ?_⟩; have n0_ := Aside0.mk (Kd.R_mono (Kd.R_keep (IsS121.apart (show IsS121 w0 _ g s0_0 x1001_7 from by repeat (first | (with_reducible first | exact HI0.out | apply IsS121.alloc | apply IsS121.drewN | apply IsS121.drew | apply IsS121.set_1 | refine IsS121.far ?_ NB0_216.out _ | refine IsS121.far ?_ NB0_225.out _) | exact HI0.out)) (rvR HO_226001.out) (by decide)) hk (fun _ h => h.2)) (fun _ h => h.1)); have n1_ := Aside0.mk (KeepBut.blk hk (g' := gb216) (o := .cells #[.int .i64 0, .slice none 0 0] 48 (0, 0)) (bvK BK216.out) NB216_0.out (by simp)); have n2_ := Aside0.mk (KeepBut.blk hk (g' := gb225) (o := .cells #[.int .i64 t217, .slice Ao15 t218.length co15] 48 (0, 0)) (bvK BK225.out) NB225_0.out (by simp)); have n3_ := Aside0.mk (KeepBut.trans (by repeat (first | (with_reducible first | exact HK.out | apply KeepBut.set_ | apply keep_drewN | apply keep_drew | apply keep_alloc | refine keep_far ?_ GW216.out _ | refine keep_far ?_ GW225.out _) | exact HK.out)) hk (.inl rfl)); have n4_ := Aside0.mk (hb); have n5_ := Aside0.mk (hi); clear HO_226001; clear BK216; clear BK225; clear HK; clear HB; clear HI0; have HO_226001 := n0_; have BK216 := n1_; have BK225 := n2_; have HK := n3_; have HB := n4_; have HI0 := n5_; clear n0_ n1_ n2_ n3_ n4_ n5_; (try clear hb); (try clear hb2); (try clear hk); (try clear hi)) | ((with_reducible refine gate_callee (f := 79) rfl ?_); refine goesL_ (some 36) rfl rfl Try.func79 (by kernel_rfl) rfl #[.pointer (some ⟨g, 0, none⟩), .int .i64 4] rfl lmB ?_; (with_reducible refine (spec_l40Rd_pick.calls kj7 g s0_0 t233 4 t234 t235 w0 _ ?side1 ?side2 A25.out).mono ?_); (case side1 => repeat (first | (with_reducible first | exact HI0.out | apply IsS121.alloc | apply IsS121.drewN | apply IsS121.drew | apply IsS121.set_1 | refine IsS121.far ?_ NB0_216.out _ | refine IsS121.far ?_ NB0_225.out _) | exact HI0.out)); (case side2 => repeat (first | (with_reducible first | exact HB.out | apply bwA | apply bwN | apply bwD | refine below_set ?_ (IsS121.ge HI0.out) | refine below_set ?_ GE216.out | refine below_set ?_ GE225.out) | exact HB.out)); rintro e w29 ⟨rfl, hi, hb, hk⟩; refine ⟨_, rfl, ?_⟩; have n0_ := Aside0.mk (Kd.R_mono (Kd.R_keep (IsS121.apart (show IsS121 w0 _ g s0_0 t233 from by repeat (first | (with_reducible first | exact HI0.out | apply IsS121.alloc | apply IsS121.drewN | apply IsS121.drew | apply IsS121.set_1 | refine IsS121.far ?_ NB0_216.out _ | refine IsS121.far ?_ NB0_225.out _) | exact HI0.out)) (rvR HO_226001.out) (by decide)) hk (fun _ h => h.2)) (fun _ h => h.1)); have n1_ := Aside0.mk (KeepBut.blk hk (g' := gb216) (o := .cells #[.int .i64 0, .slice none 0 0] 48 (0, 0)) (bvK BK216.out) NB216_0.out (by simp)); have n2_ := Aside0.mk (KeepBut.blk hk (g' := gb225) (o := .cells #[.int .i64 t217, .slice Ao15 t218.length co15] 48 (0, 0)) (bvK BK225.out) NB225_0.out (by simp)); have n3_ := Aside0.mk (KeepBut.trans (by repeat (first | (with_reducible first | exact HK.out | apply KeepBut.set_ | apply keep_drewN | apply keep_drew | apply keep_alloc | refine keep_far ?_ GW216.out _ | refine keep_far ?_ GW225.out _) | exact HK.out)) hk (.inl rfl)); have n4_ := Aside0.mk (hb); have n5_ := Aside0.mk (hi); clear HO_226001; clear BK216; clear BK225; clear HK; clear HB; clear HI0; have HO_226001 := n0_; have BK216 := n1_; have BK225 := n2_; have HK := n3_; have HB := n4_; have HI0 := n5_; clear n0_ n1_ n2_ n3_ n4_ n5_; (try clear hb); (try clear hb2); (try clear hk); (try clear hi)) | ((with_reducible refine gate_dst (N := 40) rfl ?_); (try (refine gate_guard (by rfl) ?_; dsimp only)); refine Kd.R_lit (Kd.int .i64) _ 3 ?hg (N := 40) ?hd (xs := ([(-1), 13, 0] : List Int)) (inner := [.int .i64 (-1), .int .i64 13, .int .i64 0]) (ok := fun _ => True) (okp := fun _ => True) ?hr ?hp (fun _ hk => hk) trivial (Below.refl _ _) (Nat.le_refl _) (by simp) ?_; (case hd => rfl); (case hg => rfl); (case hr => first | (go_simp; done) | (go_simp; rfl)); (case hp => exact (Reps.one (show Kd.M (Kd.int .i64) _ _ _ (-1) [.int .i64 (-1)] from rfl) (Reps.one (show Kd.M (Kd.int .i64) _ _ _ 13 [.int .i64 13] from rfl) (Reps.one (show Kd.M (Kd.int .i64) _ _ _ 0 [.int .i64 0] from rfl) (Reps.none _ _))))); intro v237 w30 ho31 hb hg_ hnew_; clear hg_ hnew_; (first | rw [← Ny236.out] at ho31 | (simp only [Int.reduceToNat] at ho31; rw [← Ny236.out] at ho31)); have n0_ := Aside0.mk (Kd.R_below (rvR HO_226001.out) hb); have n1_ := Aside0.mk (Kd.R_lower ho31 (keep_size (w := w) (g := g) (row := none) (by repeat (first | (with_reducible first | exact HK.out | apply KeepBut.set_ | apply keep_drewN | apply keep_drew | apply keep_alloc | refine keep_far ?_ GW216.out _ | refine keep_far ?_ GW225.out _) | exact HK.out)))); have n2_ := Aside0.mk (blk_below (g := gb216) (o := .cells #[.int .i64 0, .slice none 0 0] 48 (0, 0)) (bvK BK216.out) hb); have n3_ := Aside0.mk (blk_below (g := gb225) (o := .cells #[.int .i64 t217, .slice Ao15 t218.length co15] 48 (0, 0)) (bvK BK225.out) hb); have n4_ := Aside0.mk (IsS121.below (by repeat (first | (with_reducible first | exact HI0.out | apply IsS121.alloc | apply IsS121.drewN | apply IsS121.drew | apply IsS121.set_1 | refine IsS121.far ?_ NB0_216.out _ | refine IsS121.far ?_ NB0_225.out _) | exact HI0.out)) hb); have n5_ := Aside0.mk (KeepBut.trans (by repeat (first | (with_reducible first | exact HK.out | apply KeepBut.set_ | apply keep_drewN | apply keep_drew | apply keep_alloc | refine keep_far ?_ GW216.out _ | refine keep_far ?_ GW225.out _) | exact HK.out)) (KeepBut.of_below hb g none) (.inl rfl)); have n6_ := Aside0.mk (below_step (by repeat (first | (with_reducible first | exact HB.out | apply bwA | apply bwN | apply bwD | refine below_set ?_ (IsS121.ge HI0.out) | refine below_set ?_ GE216.out | refine below_set ?_ GE225.out) | exact HB.out)) hb); clear HO_226001; clear BK216; clear BK225; clear HI0; clear HK; clear HB; have HO_226001 := n0_; have HO238 := n1_; have BK216 := n2_; have BK225 := n3_; have HI0 := n4_; have HK := n5_; have HB := n6_; clear n0_ n1_ n2_ n3_ n4_ n5_ n6_; clear hb ho31; obtain ⟨Ao32, co32, eo32⟩ := Kd.R_slice HO238.out; subst eo32) | ((with_reducible refine gate_callee (f := 80) rfl ?_); refine goesL_ (some 41) rfl rfl Try.func80 (by kernel_rfl) rfl #[.pointer (some ⟨g, 0, none⟩), .slice Ao32 y236.length co32] rfl lmB ?_; (with_reducible refine (spec_l40Rd_num.calls kj7 g s0_0 t235 _ _ y236 t239 t240 w0 _ ?side1 ?side2 ?side3 ?side4 ?side5 A27.out).mono ?_); (case side1 => repeat (first | (with_reducible first | exact HI0.out | apply IsS121.alloc | apply IsS121.drewN | apply IsS121.drew | apply IsS121.set_1 | refine IsS121.far ?_ NB0_216.out _ | refine IsS121.far ?_ NB0_225.out _) | exact HI0.out)); (case side2 => repeat (first | (with_reducible first | exact HB.out | apply bwA | apply bwN | apply bwD | refine below_set ?_ (IsS121.ge HI0.out) | refine below_set ?_ GE216.out | refine below_set ?_ GE225.out) | exact HB.out)); (case side3 => repeat (first | exact (Kd.R_reads' HO238.out).2.2 | (with_reducible refine Kd.C_alloc ?_ _) | (with_reducible refine Kd.C_drewN ?_ _) | (with_reducible refine Kd.C_drew ?_))); (case side4 => exact (Kd.R_reads' HO238.out).2.1); (case side5 => exact far_slice (IsS121.own_ne HI0.out HO238.out (by decide))); rintro e w33 ⟨rfl, hi, hb, hk⟩; refine ⟨_, rfl, ?_⟩; have n0_ := Aside0.mk (Kd.R_mono (Kd.R_keep (IsS121.apart (show IsS121 w0 _ g s0_0 t235 from by repeat (first | (with_reducible first | exact HI0.out | apply IsS121.alloc | apply IsS121.drewN | apply IsS121.drew | apply IsS121.set_1 | refine IsS121.far ?_ NB0_216.out _ | refine IsS121.far ?_ NB0_225.out _) | exact HI0.out)) (rvR HO_226001.out) (by decide)) hk (fun _ h => h.2)) (fun _ h => h.1)); have n1_ := Aside0.mk (KeepBut.blk hk (g' := gb216) (o := .cells #[.int .i64 0, .slice none 0 0] 48 (0, 0)) (bvK BK216.out) NB216_0.out (by simp)); have n2_ := Aside0.mk (KeepBut.blk hk (g' := gb225) (o := .cells #[.int .i64 t217, .slice Ao15 t218.length co15] 48 (0, 0)) (bvK BK225.out) NB225_0.out (by simp)); have n3_ := Aside0.mk (Kd.R_mono (Kd.R_keep (IsS121.apart (show IsS121 w0 _ g s0_0 t235 from by repeat (first | (with_reducible first | exact HI0.out | apply IsS121.alloc | apply IsS121.drewN | apply IsS121.drew | apply IsS121.set_1 | refine IsS121.far ?_ NB0_216.out _ | refine IsS121.far ?_ NB0_225.out _) | exact HI0.out)) (rvR HO238.out) (by decide)) hk (fun _ h => h.2)) (fun _ h => h.1)); have n4_ := Aside0.mk (KeepBut.trans (by repeat (first | (with_reducible first | exact HK.out | apply KeepBut.set_ | apply keep_drewN | apply keep_drew | apply keep_alloc | refine keep_far ?_ GW216.out _ | refine keep_far ?_ GW225.out _) | exact HK.out)) hk (.inl rfl)); have n5_ := Aside0.mk (hb); have n6_ := Aside0.mk (hi); clear HO_226001; clear BK216; clear BK225; clear HO238; clear HK; clear HB; clear HI0; have HO_226001 := n0_; have BK216 := n1_; have BK225 := n2_; have HO238 := n3_; have HK := n4_; have HB := n5_; have HI0 := n6_; clear n0_ n1_ n2_ n3_ n4_ n5_ n6_; (try clear hb); (try clear hb2); (try clear hk); (try clear hi); have hnb34 := NB225_216.out; have hnc34 := NB216_225.out; have hnb35 := NB225_0.out; have hnc35 := NB0_225.out; have hcz36_0 : w33.cell? ⟨gb225, 0, none⟩ = some (.int .i64 t217) := (blk_cell BK225.out 0).trans rfl; have hcz36_1 : w33.cell? ⟨gb225, 1, none⟩ = some (.slice Ao15 t218.length co15) := (blk_cell BK225.out 1).trans rfl; have hfz36_0 := blk_frozen BK225.out 0; have hfz36_1 := blk_frozen BK225.out 1; have hnb37 := NB216_0.out; have hnc37 := NB0_216.out; have hcz38_0 : w33.cell? ⟨gb216, 0, none⟩ = some (.int .i64 0) := (blk_cell BK216.out 0).trans rfl; have hcz38_1 : w33.cell? ⟨gb216, 1, none⟩ = some (.slice none 0 0) := (blk_cell BK216.out 1).trans rfl; have hfz38_0 := blk_frozen BK216.out 0; have hfz38_1 := blk_frozen BK216.out 1))
       refine bodyPost_ret (results_ct rfl _ _ gb216 48 #[.int .i64 t239, .slice Ao15 t218.length co15] (0, 0) _ rfl (by (with_reducible repeat first | apply bkN | apply bkD | apply bkA); refine blk_put (cs := #[.int .i64 t239, .slice none 0 0]) ?_ 1 _ rfl; (with_reducible repeat first | apply bkN | apply bkD | apply bkA); refine blk_put (cs := #[.int .i64 0, .slice none 0 0]) ?_ 0 _ rfl; (with_reducible repeat first | apply bkN | apply bkD | apply bkA); refine blk_far ?_ NB216_225.out _; (with_reducible repeat first | apply bkN | apply bkD | apply bkA); exact BK216.out) Try.underlying48 rfl (by kernel_rfl)) rfl ?_
       exact ⟨_, by first | rfl | (simp [errW_none, errW_some] <;> rfl) | (simp only [← hji4]; first | rfl | (simp [errW_none, errW_some] <;> rfl)) | (simp [*, errW_none, errW_some] <;> rfl), by (with_reducible repeat first | apply rvA | apply rvN | apply rvD); exact Kd.R_mono (Kd.R_far (p := ⟨gb216, 1, none⟩) (Kd.R_far (p := ⟨gb216, 0, none⟩) (Kd.R_far (p := ⟨gb225, 0, none⟩) (Kd.R_types (Kd.R_types HO_226001.out BK225.out (by decide)) BK216.out (by decide)) (fun _ hk => hk.1.2) (.int .i64 t239)) (fun _ hk => hk.2) (.int .i64 t239)) (fun _ hk => hk.2) (.slice Ao15 t218.length co15)) (fun _ hk => trivial), by repeat (first | (with_reducible first | exact HI0.out | apply IsS121.alloc | apply IsS121.drewN | apply IsS121.drew | apply IsS121.set_1 | refine IsS121.far ?_ NB0_216.out _ | refine IsS121.far ?_ NB0_225.out _) | exact HI0.out), by repeat (first | (with_reducible first | exact HB.out | apply bwA | apply bwN | apply bwD | refine below_set ?_ (IsS121.ge HI0.out) | refine below_set ?_ GE216.out | refine below_set ?_ GE225.out) | exact HB.out), by repeat (first | (with_reducible first | exact HK.out | apply KeepBut.set_ | apply keep_drewN | apply keep_drew | apply keep_alloc | refine keep_far ?_ GW216.out _ | refine keep_far ?_ GW225.out _) | exact HK.out)⟩
      ·rw [if_neg c26] at H
       have c26b0 : (t234 == 0) = false := beq_eq_false_iff_ne.mpr c26
       have c26b1 : (t234 != 0) = true := bne_iff_ne.mpr c26
       have HC39 := Aside0.mk H
       clear H
       go_upto_region 9 with (first | ((with_reducible refine gate_callee (f := 79) rfl ?_); refine goesL_ (some 33) rfl rfl Try.func79 (by kernel_rfl) rfl #[.pointer (some ⟨g, 0, none⟩), .int .i64 14] rfl lmB ?_; (with_reducible refine (spec_l40Rd_pick.calls kj7 g s0_0 x1001_7 14 t232 t233 w0 _ ?side1 ?side2 A23.out).mono ?_); (case side1 => repeat (first | (with_reducible first | exact HI0.out | apply IsS121.alloc | apply IsS121.drewN | apply IsS121.drew | apply IsS121.set_1 | refine IsS121.far ?_ NB0_216.out _ | refine IsS121.far ?_ NB0_225.out _) | exact HI0.out)); (case side2 => repeat (first | (with_reducible first | exact HB.out | apply bwA | apply bwN | apply bwD | refine below_set ?_ (IsS121.ge HI0.out) | refine below_set ?_ GE216.out | refine below_set ?_ GE225.out) | exact HB.out)); rintro e w40 ⟨rfl, hi, hb, hk⟩; refine ⟨_, rfl, ?_⟩; have n0_ := Aside0.mk (Kd.R_mono (Kd.R_keep (IsS121.apart (show IsS121 w0 _ g s0_0 x1001_7 from by repeat (first | (with_reducible first | exact HI0.out | apply IsS121.alloc | apply IsS121.drewN | apply IsS121.drew | apply IsS121.set_1 | refine IsS121.far ?_ NB0_216.out _ | refine IsS121.far ?_ NB0_225.out _) | exact HI0.out)) (rvR HO_226001.out) (by decide)) hk (fun _ h => h.2)) (fun _ h => h.1)); have n1_ := Aside0.mk (KeepBut.blk hk (g' := gb216) (o := .cells #[.int .i64 0, .slice none 0 0] 48 (0, 0)) (bvK BK216.out) NB216_0.out (by simp)); have n2_ := Aside0.mk (KeepBut.blk hk (g' := gb225) (o := .cells #[.int .i64 t217, .slice Ao15 t218.length co15] 48 (0, 0)) (bvK BK225.out) NB225_0.out (by simp)); have n3_ := Aside0.mk (KeepBut.trans (by repeat (first | (with_reducible first | exact HK.out | apply KeepBut.set_ | apply keep_drewN | apply keep_drew | apply keep_alloc | refine keep_far ?_ GW216.out _ | refine keep_far ?_ GW225.out _) | exact HK.out)) hk (.inl rfl)); have n4_ := Aside0.mk (hb); have n5_ := Aside0.mk (hi); clear HO_226001; clear BK216; clear BK225; clear HK; clear HB; clear HI0; have HO_226001 := n0_; have BK216 := n1_; have BK225 := n2_; have HK := n3_; have HB := n4_; have HI0 := n5_; clear n0_ n1_ n2_ n3_ n4_ n5_; (try clear hb); (try clear hb2); (try clear hk); (try clear hi)) | ((with_reducible refine gate_callee (f := 79) rfl ?_); refine goesL_ (some 36) rfl rfl Try.func79 (by kernel_rfl) rfl #[.pointer (some ⟨g, 0, none⟩), .int .i64 4] rfl lmB ?_; (with_reducible refine (spec_l40Rd_pick.calls kj7 g s0_0 t233 4 t234 t235 w0 _ ?side1 ?side2 A25.out).mono ?_); (case side1 => repeat (first | (with_reducible first | exact HI0.out | apply IsS121.alloc | apply IsS121.drewN | apply IsS121.drew | apply IsS121.set_1 | refine IsS121.far ?_ NB0_216.out _ | refine IsS121.far ?_ NB0_225.out _) | exact HI0.out)); (case side2 => repeat (first | (with_reducible first | exact HB.out | apply bwA | apply bwN | apply bwD | refine below_set ?_ (IsS121.ge HI0.out) | refine below_set ?_ GE216.out | refine below_set ?_ GE225.out) | exact HB.out)); rintro e w41 ⟨rfl, hi, hb, hk⟩; refine ⟨_, rfl, ?_⟩; have n0_ := Aside0.mk (Kd.R_mono (Kd.R_keep (IsS121.apart (show IsS121 w0 _ g s0_0 t233 from by repeat (first | (with_reducible first | exact HI0.out | apply IsS121.alloc | apply IsS121.drewN | apply IsS121.drew | apply IsS121.set_1 | refine IsS121.far ?_ NB0_216.out _ | refine IsS121.far ?_ NB0_225.out _) | exact HI0.out)) (rvR HO_226001.out) (by decide)) hk (fun _ h => h.2)) (fun _ h => h.1)); have n1_ := Aside0.mk (KeepBut.blk hk (g' := gb216) (o := .cells #[.int .i64 0, .slice none 0 0] 48 (0, 0)) (bvK BK216.out) NB216_0.out (by simp)); have n2_ := Aside0.mk (KeepBut.blk hk (g' := gb225) (o := .cells #[.int .i64 t217, .slice Ao15 t218.length co15] 48 (0, 0)) (bvK BK225.out) NB225_0.out (by simp)); have n3_ := Aside0.mk (KeepBut.trans (by repeat (first | (with_reducible first | exact HK.out | apply KeepBut.set_ | apply keep_drewN | apply keep_drew | apply keep_alloc | refine keep_far ?_ GW216.out _ | refine keep_far ?_ GW225.out _) | exact HK.out)) hk (.inl rfl)); have n4_ := Aside0.mk (hb); have n5_ := Aside0.mk (hi); clear HO_226001; clear BK216; clear BK225; clear HK; clear HB; clear HI0; have HO_226001 := n0_; have BK216 := n1_; have BK225 := n2_; have HK := n3_; have HB := n4_; have HI0 := n5_; clear n0_ n1_ n2_ n3_ n4_ n5_; (try clear hb); (try clear hb2); (try clear hk); (try clear hi)))
       (try simp only [Act.put, List.setIfInBounds_toArray, List.set_cons_zero, List.set_cons_succ])
       go_cut [50] (fun v50 wc => ∃ (kq : Nat) (x50_38 : Bool), v50 = .bool x50_38 ∧ Aside0 (spec_l8Any.j1 kq x8_7 t234 x50_38 s0_0 t235 t217 t218 = some (r1, r2, r3, r4)) ∧ Aside0 (kq ≤ kj7) ∧ Aside0 (Kd.R k56 56 wc w.heap.size (fun _ => True) (.slice Ao15 t218.length co15) t218) ∧ Aside0 (wc.heap[gb216]? = some (.cells #[.int .i64 0, (.slice none 0 0)] 48 (0, 0))) ∧ Aside0 (wc.heap[gb225]? = some (.cells #[.int .i64 t217, (.slice Ao15 t218.length co15)] 48 (0, 0))) ∧ Aside0 (IsS121 w0 wc g s0_0 t235) ∧ Aside0 (KeepBut w wc g none) ∧ Aside0 (Below w0.heap.size w0 wc))
       case first =>
        have H := HC39.out
        clear HC39
        by_cases c42 : t234 = 1
        ·rw [if_pos c42] at H
         have c42b0 : (t234 == 1) = true := beq_iff_eq.mpr c42
         have c42b1 : (t234 != 1) = false := bne_eq_false_iff_eq.mpr c42
         clear c42
         (first | rw [c42b0] | (simp only [i64_w, i32_w]; rw [c42b0]) | skip)
         have H' := Aside0.mk H
         clear H
         have hnb43 := NB225_216.out
         have hnc43 := NB216_225.out
         have hnb44 := NB225_0.out
         have hnc44 := NB0_225.out
         have hcz45_0 : w41.cell? ⟨gb225, 0, none⟩ = some (.int .i64 t217) := (blk_cell BK225.out 0).trans rfl
         have hcz45_1 : w41.cell? ⟨gb225, 1, none⟩ = some (.slice Ao15 t218.length co15) := (blk_cell BK225.out 1).trans rfl
         have hfz45_0 := blk_frozen BK225.out 0
         have hfz45_1 := blk_frozen BK225.out 1
         go_wp2
         go_meet
         case rel => exact ⟨_, (decide ((t218.length : Int) > 0)), rsd, H', ⟨by have := HJ7.out; first | omega | exact Nat.le_refl _⟩, ⟨rvR HO_226001.out⟩, ⟨bvK BK216.out⟩, ⟨bvK BK225.out⟩, ⟨by repeat (first | (with_reducible first | exact HI0.out | apply IsS121.alloc | apply IsS121.drewN | apply IsS121.drew | apply IsS121.set_1 | refine IsS121.far ?_ NB0_216.out _ | refine IsS121.far ?_ NB0_225.out _) | exact HI0.out)⟩, ⟨by repeat (first | (with_reducible first | exact HK.out | apply KeepBut.set_ | apply keep_drewN | apply keep_drew | apply keep_alloc | refine keep_far ?_ GW216.out _ | refine keep_far ?_ GW225.out _) | exact HK.out)⟩, ⟨by repeat (first | (with_reducible first | exact HB.out | apply bwA | apply bwN | apply bwD | refine below_set ?_ (IsS121.ge HI0.out) | refine below_set ?_ GE216.out | refine below_set ?_ GE225.out) | exact HB.out)⟩⟩
        ·rw [if_neg c42] at H
         have c42b0 : (t234 == 1) = false := beq_eq_false_iff_ne.mpr c42
         have c42b1 : (t234 != 1) = true := bne_iff_ne.mpr c42
         (first | rw [c42b0] | (simp only [i64_w, i32_w]; rw [c42b0]) | skip)
         have H' := Aside0.mk H
         clear H
         go_wp2
         go_meet
         case rel => exact ⟨_, (false), rsd, H', ⟨by have := HJ7.out; first | omega | exact Nat.le_refl _⟩, ⟨rvR HO_226001.out⟩, ⟨bvK BK216.out⟩, ⟨bvK BK225.out⟩, ⟨by repeat (first | (with_reducible first | exact HI0.out | apply IsS121.alloc | apply IsS121.drewN | apply IsS121.drew | apply IsS121.set_1 | refine IsS121.far ?_ NB0_216.out _ | refine IsS121.far ?_ NB0_225.out _) | exact HI0.out)⟩, ⟨by repeat (first | (with_reducible first | exact HK.out | apply KeepBut.set_ | apply keep_drewN | apply keep_drew | apply keep_alloc | refine keep_far ?_ GW216.out _ | refine keep_far ?_ GW225.out _) | exact HK.out)⟩, ⟨by repeat (first | (with_reducible first | exact HB.out | apply bwA | apply bwN | apply bwD | refine below_set ?_ (IsS121.ge HI0.out) | refine below_set ?_ GE216.out | refine below_set ?_ GE225.out) | exact HB.out)⟩⟩
       case rest =>
        clear HC39
        try clear c1
        try clear c2
        try clear p2
        try clear q2
        try clear hx2
        try clear c3
        try clear c4
        try clear c5
        try clear c5b0
        try clear c6
        try clear c6b0
        try clear p6
        try clear c7
        try clear c8
        try clear c11
        try clear c12
        try clear c13
        try clear c18
        try clear c18b0
        try clear c18b1
        try clear c20
        try clear c20b0
        try clear c21
        try clear c21b0
        try clear p22
        try clear q22
        try clear hx22
        try clear p23
        try clear q23
        try clear hx23
        try clear c24
        try clear c24b0
        try clear c24b1
        try clear c26
        try clear c26b0
        try clear c26b1
        try clear c34
        try clear c35
        try clear c37
        try clear c42
        try clear c42b0
        try clear c42b1
        try clear c43
        try clear c44
        try clear hcz14_0
        try clear hcz14_1
        try clear hcz36_0
        try clear hcz36_1
        try clear hcz38_0
        try clear hcz38_1
        try clear hcz45_0
        try clear hcz45_1
        try clear hfz14_0
        try clear hfz14_1
        try clear hfz36_0
        try clear hfz36_1
        try clear hfz38_0
        try clear hfz38_1
        try clear hfz45_0
        try clear hfz45_1
        try clear hx226_0
        try clear hx231_0
        try clear p2
        try clear p22
        try clear p226
        try clear p231
        try clear p6
        try clear q2
        try clear q22
        try clear q226
        try clear q231
        obtain ⟨kq, x50_38, rfl, HA, HJ38, HO_226001, BK216, BK225, HI0, HK, HB⟩ := hcut
        cases kq with
        | zero => exact absurd HA.out (by simp [spec_l8Any.j1])
        | succ kj38 =>
         have H := HA.out
         clear HA
         simp only [spec_l8Any.j1] at H
         by_cases c46 : x50_38 = true
         ·subst c46
          have H1 : (if 0 < (t218.length : Int) then (if t218.length < 5864062014805 then (some (t217, (t218 ++ [(⟨(rd_T56 t218 0).f0, (rd_T56 t218 0).f1, (rd_T56 t218 0).f2⟩ : S56)]), x8_7, t235)) else (none)) else (none)) = some (r1, r2, r3, r4) := by rw [if_pos rfl] at H; exact H
          clear H
          have H := H1
          clear H1
          by_cases c47 : 0 < (t218.length : Int)
          ·rw [if_pos c47] at H
           have c47b0 : decide (0 < (t218.length : Int)) = true := decide_eq_true c47
           have c47b1 : decide (0 < t218.length) = true := decide_eq_true (by omega)
           clear c47
           by_cases c48 : t218.length < 5864062014805
           ·rw [if_pos c48] at H
            have LMc48 := Aside0.mk c48
            clear c48
            obtain ⟨y242, hy242⟩ : ∃ y_ : List (S56), y_ = (t218 ++ [(⟨(rd_T56 t218 0).f0, (rd_T56 t218 0).f1, (rd_T56 t218 0).f2⟩ : S56)]) := ⟨_, rfl⟩
            replace H : (some (t217, y242, x8_7, t235)) = some (r1, r2, r3, r4) := by first | (rw [hy242]; with_reducible exact H) | (have H2_ := (Option.bind_some _ _).symm.trans H; rw [hy242]; with_reducible exact H2_) | (have H2_ := (Option.bind_some _ _).symm.trans H; with_reducible exact H2_) | with_reducible exact H | (rw [hy242]; exact H) | exact H
            have Ny242 := Aside0.mk hy242
            clear hy242
            simp only [Option.some.injEq, Prod.mk.injEq] at H
            obtain ⟨rfl, rfl, rfl, rfl⟩ := H
            try go_wp2
            have n0_ := Aside0.mk (Kd.R_drew HO_226001.out)
            have n1_ := Aside0.mk (blk_drew BK216.out)
            have n2_ := Aside0.mk (blk_drew BK225.out)
            have n3_ := Aside0.mk (IsS121.drew HI0.out)
            have n4_ := Aside0.mk (keep_drew HK.out)
            have n5_ := Aside0.mk (below_drew1 HB.out)
            clear HO_226001
            clear BK216
            clear BK225
            clear HI0
            clear HK
            clear HB
            have HO_226001 := n0_
            have BK216 := n1_
            have BK225 := n2_
            have HI0 := n3_
            have HK := n4_
            have HB := n5_
            clear n0_ n1_ n2_ n3_ n4_ n5_
            have p241 : 0 ≤ (0 : Int) := (by omega)
            have q241 : 0 < (t218.length : Int) := oda
            obtain ⟨ad241, e241, hx241_0, hx241_1, hx241_2⟩ := at_T56 (Kd.R_reads' HO_226001.out).2.2 0 p241 q241
            cases e241
            have qi241 : (0 < t218.length) = True := eq_true (by omega)
            (try rw [show ((0 : Int)).toNat = 0 from rfl] at hx241_0)
            (try rw [show 0 * 3 = 0 from rfl] at hx241_0)
            (try rw [Addr.add_zero'] at hx241_0)
            (try rw [show ((0 : Int)).toNat = 0 from rfl] at hx241_1)
            (try rw [show 0 * 3 = 0 from rfl] at hx241_1)
            (try rw [Addr.add_zero'] at hx241_1)
            (try rw [show ((0 : Int)).toNat = 0 from rfl] at hx241_2)
            (try rw [show 0 * 3 = 0 from rfl] at hx241_2)
            (try rw [Addr.add_zero'] at hx241_2)
            replace p241 := eq_true p241
            replace q241 := eq_true q241
            refine start_ (n := 10) (S := fun w' => w'.cell? ⟨gb225, 0, none⟩ = some (.int .i64 t217) ∧ w'.cell? ⟨gb225, 1, none⟩ = some (.slice (some ad241) t218.length co15) ∧ w'.cell? ad241 = some (.int .i64 ((rd_T56 t218 0).f0)) ∧ w'.cell? ⟨ad241.block, ad241.off + 1, none⟩ = some (.int .i64 ((rd_T56 t218 0).f1)) ∧ w'.cell? ⟨ad241.block, ad241.off + 2, none⟩ = some (.int .i64 ((rd_T56 t218 0).f2))) (ds := [7, 9]) (Pt.bm 10 0) (by kernel_rfl) rfl rfl ⟨(blk_cell BK225.out 0).trans rfl, (blk_cell BK225.out 1).trans rfl, hx241_0, hx241_1, hx241_2⟩ (fun hHeld => ?_); refine with_tabW spec_l8Any.tab10 spec_l8Any.bits10 (fun HT_ HW_ => ?_)
            generalize wc.drew = w49 at HO_226001 BK216 BK225 HI0 HK HB hx241_0 hx241_1 hx241_2 hHeld ⊢
            refine Pt.pu 0 (some 51) (Pt.bm 10 1) (any_of HT_.out (by kernel_rfl)) ?_
            refine Pt.pu 2 (some 53) (Pt.bm 10 5) (any_of HT_.out (by kernel_rfl)) ?_
            refine Pt.tk 1 (some 52) (Pt.bm 10 7) rfl rfl (take_ofW HT_.out HW_.out (by kernel_rfl)) hHeld (Or.inl ⟨by rfl, by rintro w' ⟨s0, s1, s2, s3, s4⟩; go_simp; with_reducible rfl⟩) ?_
            refine Pt.tk 3 (some 54) (Pt.bm 10 15) rfl rfl (take_ofW HT_.out HW_.out (by kernel_rfl)) hHeld (Or.inl ⟨by rfl, by rintro w' ⟨s0, s1, s2, s3, s4⟩; go_simp; with_reducible rfl⟩) ?_
            refine Pt.pu 4 (some 55) (Pt.bm 10 31) (any_of HT_.out (by kernel_rfl)) ?_
            refine Pt.tk 5 (some 56) (Pt.bm 10 63) rfl rfl (take_ofW HT_.out HW_.out (by kernel_rfl)) hHeld (Or.inl ⟨by rfl, by rintro w' ⟨s0, s1, s2, s3, s4⟩; go_simp; with_reducible rfl⟩) ?_
            refine one_ (i := 6) (N := some 57) (Pt.bm 10 127) rfl rfl (one_of HT_.out (by kernel_rfl)) (by decide) (fun K hK => ?_)
            refine value_ (w1 := ?_) (v := ?_) (by rfl) rfl ?_ ?_
            rotate_left 2
            ·go_simp
             constructor
             ·rfl
             ·rfl
            refine hK.out _ _ ⟨(blk_cell (blk_alloc BK225.out _) 0).trans rfl, (blk_cell (blk_alloc BK225.out _) 1).trans rfl, (World.cell?_alloc_lt _ _ _ (World.block_lt_of_cell? _ _ (hHeld.2.2.1))).trans (hHeld.2.2.1), (World.cell?_alloc_lt _ _ _ (World.block_lt_of_cell? _ _ (hHeld.2.2.2.1))).trans (hHeld.2.2.2.1), (World.cell?_alloc_lt _ _ _ (World.block_lt_of_cell? _ _ (hHeld.2.2.2.2))).trans (hHeld.2.2.2.2)⟩ (fun hHeld => ?_)
            clear hK K
            refine norm_ (a' := ?_) ?_ ?_
            rotate_left
            ·show Act.put _ (some 57) _ = _
             simp only [Act.put, List.setIfInBounds_toArray, List.set_cons_zero, List.set_cons_succ, i64_w, i32_w]
             rfl
            refine last_ (i := 7) (N := some 58) (Pt.bm 10 255) rfl rfl (one_of HT_.out (by kernel_rfl)) (by decide) (fun K hK => ?_)
            refine Kd.R_append_step k56 w.heap.size (by rfl) (.tmp 52) (.tmp 57) 46 56 (.agg #[(.int .i64 0), (.int .i64 0), (.int .i64 0)]) 24 rfl Try.underlying46 info56 rfl (by decide) (by omega) (.slice (some ad241) t218.length co15) t218 (⟨(rd_T56 t218 0).f0, (rd_T56 t218 0).f1, (rd_T56 t218 0).f2⟩ : S56) [.int .i64 ((rd_T56 t218 0).f0), .int .i64 ((rd_T56 t218 0).f1), .int .i64 ((rd_T56 t218 0).f2)] (fun _ => True) (fun _ => False) rfl rfl ?aP (fun _ hk => hk.elim) ?aF ?aO (Below.refl _ _) ?aS ?aL ?_
            (case aP => exact k56_mkM _ _ _ (⟨(rd_T56 t218 0).f0, (rd_T56 t218 0).f1, (rd_T56 t218 0).f2⟩ : S56))
            (case aF => exact (fun _ _ => trivial))
            (case aO => exact (rvR HO_226001.out))
            (case aS => exact (keep_size (w := w) (g := g) (row := none) (by repeat (first | (with_reducible first | exact HK.out | apply KeepBut.set_ | apply keep_drewN | apply keep_drew | apply keep_alloc | refine keep_far ?_ GW216.out _ | refine keep_far ?_ GW225.out _) | exact HK.out))))
            (case aL => have := LMc48.out; omega)
            intro v243 w50 ho hb hg hat
            rw [← Ny242.out] at ho
            have n0_ := Aside0.mk (blk_grown (g := gb216) (o := .cells #[.int .i64 0, .slice none 0 0] 48 (0, 0)) (bvK BK216.out) hg (Kd.R_ne HO_226001.out BK216.out (by decide)))
            have n1_ := Aside0.mk (blk_grown (g := gb225) (o := .cells #[.int .i64 t217, .slice (some ad241) t218.length co15] 48 (0, 0)) (bvK BK225.out) hg (Kd.R_ne HO_226001.out BK225.out (by decide)))
            have n2_ := Aside0.mk (IsS121.grown (by repeat (first | (with_reducible first | exact HI0.out | apply IsS121.alloc | apply IsS121.drewN | apply IsS121.drew | apply IsS121.set_1 | refine IsS121.far ?_ NB0_216.out _ | refine IsS121.far ?_ NB0_225.out _) | exact HI0.out)) hg (IsS121.own_ne HI0.out HO_226001.out (by decide)))
            have n3_ := Aside0.mk (below_weaken (by repeat (first | (with_reducible first | exact HB.out | apply bwA | apply bwN | apply bwD | refine below_set ?_ (IsS121.ge HI0.out) | refine below_set ?_ GE216.out | refine below_set ?_ GE225.out) | exact HB.out)) HL.out hb)
            have n4_ := Aside0.mk (KeepBut.trans (by repeat (first | (with_reducible first | exact HK.out | apply KeepBut.set_ | apply keep_drewN | apply keep_drew | apply keep_alloc | refine keep_far ?_ GW216.out _ | refine keep_far ?_ GW225.out _) | exact HK.out)) (KeepBut.of_grown hg g) (Kd.R_base2 HO_226001.out))
            have n5_ := Aside0.mk (ho)
            clear BK216
            clear BK225
            clear HI0
            clear HB
            clear HK
            clear HO_226001
            have BK216 := n0_
            have BK225 := n1_
            have HI0 := n2_
            have HB := n3_
            have HK := n4_
            have HO244 := n5_
            clear n0_ n1_ n2_ n3_ n4_ n5_
            clear ho hb hg hat
            obtain ⟨Ao51, co51, eo51⟩ := Kd.R_slice HO244.out
            (first | subst eo51 | (injection eo51 with f1_ f2_ f3_; have f4_ := f1_.symm; have f5_ := f3_.symm; clear f1_ f2_ f3_; subst f4_; subst f5_))
            refine hK.out _ _ ?_
            clear hK K
            refine norm_ (a' := ?_) ?_ ?_
            rotate_left
            ·show Act.put _ (some 58) _ = _
             simp only [Act.put, List.setIfInBounds_toArray, List.set_cons_zero, List.set_cons_succ, i64_w, i32_w]
             rfl
            refine Pt.pu 8 (some 59) (Pt.bm 10 511) (any_of HT_.out (by kernel_rfl)) ?_
            refine last_ (i := 9) (N := none) (Pt.bm 10 1023) rfl rfl (one_of HT_.out (by kernel_rfl)) (by decide) (fun K hK => ?_)
            have hs52 : w50.cell? ⟨gb225, 1, none⟩ = some (.slice (some ad241) t218.length co15) := (blk_cell BK225.out 1).trans rfl
            have hfs52 := blk_frozen BK225.out 1
            have hns52_0 := NB216_225.out
            have hms52_0 := NB225_216.out
            refine skip_ (w1 := ?_) (by rfl) rfl ?_ ?_
            rotate_left
            ·go_simp
             rfl
            refine hK.out _ _ ?_
            clear hK K
            refine done_ (done_of HT_.out (by kernel_rfl)) ?_
            have hnb53 := NB225_216.out
            have hnc53 := NB216_225.out
            have hnb54 := NB225_0.out
            have hnc54 := NB0_225.out
            have hcz55_0 : w50.cell? ⟨gb225, 0, none⟩ = some (.int .i64 t217) := (blk_cell BK225.out 0).trans rfl
            have hcz55_1 : w50.cell? ⟨gb225, 1, none⟩ = some (.slice (some ad241) t218.length co15) := (blk_cell BK225.out 1).trans rfl
            have hfz55_0 := blk_frozen BK225.out 0
            have hfz55_1 := blk_frozen BK225.out 1
            have hnb56 := NB216_0.out
            have hnc56 := NB0_216.out
            have hcz57_0 : w50.cell? ⟨gb216, 0, none⟩ = some (.int .i64 0) := (blk_cell BK216.out 0).trans rfl
            have hcz57_1 : w50.cell? ⟨gb216, 1, none⟩ = some (.slice none 0 0) := (blk_cell BK216.out 1).trans rfl
            have hfz57_0 := blk_frozen BK216.out 0
            have hfz57_1 := blk_frozen BK216.out 1
            try go_wp2
            refine bodyPost_ret (results_ct rfl _ _ gb216 48 #[.int .i64 t217, .slice Ao51 y242.length co51] (0, 0) _ rfl (by (with_reducible repeat first | apply bkN | apply bkD | apply bkA); refine blk_put (cs := #[.int .i64 t217, .slice none 0 0]) ?_ 1 _ rfl; (with_reducible repeat first | apply bkN | apply bkD | apply bkA); refine blk_put (cs := #[.int .i64 0, .slice none 0 0]) ?_ 0 _ rfl; (with_reducible repeat first | apply bkN | apply bkD | apply bkA); refine blk_far ?_ NB216_225.out _; (with_reducible repeat first | apply bkN | apply bkD | apply bkA); exact BK216.out) Try.underlying48 rfl (by kernel_rfl)) rfl ?_
            exact ⟨_, by first | rfl | (simp [errW_none, errW_some] <;> rfl) | (simp only [← hji4]; first | rfl | (simp [errW_none, errW_some] <;> rfl)) | (simp [*, errW_none, errW_some] <;> rfl), by (with_reducible repeat first | apply rvA | apply rvN | apply rvD); exact Kd.R_mono (Kd.R_far (p := ⟨gb216, 1, none⟩) (Kd.R_far (p := ⟨gb216, 0, none⟩) (Kd.R_far (p := ⟨gb225, 1, none⟩) (Kd.R_types (Kd.R_types HO244.out BK225.out (by decide)) BK216.out (by decide)) (fun _ hk => hk.1.2) (.slice Ao51 y242.length co51)) (fun _ hk => hk.2) (.int .i64 t217)) (fun _ hk => hk.2) (.slice Ao51 y242.length co51)) (fun _ hk => trivial), by repeat (first | (with_reducible first | exact HI0.out | apply IsS121.alloc | apply IsS121.drewN | apply IsS121.drew | apply IsS121.set_1 | refine IsS121.far ?_ NB0_216.out _ | refine IsS121.far ?_ NB0_225.out _) | exact HI0.out), by repeat (first | (with_reducible first | exact HB.out | apply bwA | apply bwN | apply bwD | refine below_set ?_ (IsS121.ge HI0.out) | refine below_set ?_ GE216.out | refine below_set ?_ GE225.out) | exact HB.out), by repeat (first | (with_reducible first | exact HK.out | apply KeepBut.set_ | apply keep_drewN | apply keep_drew | apply keep_alloc | refine keep_far ?_ GW216.out _ | refine keep_far ?_ GW225.out _) | exact HK.out)⟩
           ·rw [if_neg c48] at H
            exact absurd H (by simp)
          ·rw [if_neg c47] at H
           exact absurd H (by simp)
         ·replace c46 := Bool.eq_false_iff.mpr c46
          subst c46
          have H1 : (if t234 = 2 then (spec_l8Any.j2 kj38 x8_7 (decide ((t218.length : Int) > 0)) s0_0 t235 t217 t218) else (spec_l8Any.j2 kj38 x8_7 false s0_0 t235 t217 t218)) = some (r1, r2, r3, r4) := by rw [if_neg (show ¬ (false = true) by decide)] at H; exact H
          clear H
          have H := H1
          clear H1
          have HC58 := Aside0.mk H
          clear H
          go_upto_region 11 with (fail)
          go_cut [67] (fun v67 wc => ∃ (kq : Nat) (x67_57 : Bool), v67 = .bool x67_57 ∧ Aside0 (spec_l8Any.j2 kq x8_7 x67_57 s0_0 t235 t217 t218 = some (r1, r2, r3, r4)) ∧ Aside0 (kq ≤ kj38) ∧ Aside0 (Kd.R k56 56 wc w.heap.size (fun _ => True) (.slice Ao15 t218.length co15) t218) ∧ Aside0 (wc.heap[gb216]? = some (.cells #[.int .i64 0, (.slice none 0 0)] 48 (0, 0))) ∧ Aside0 (wc.heap[gb225]? = some (.cells #[.int .i64 t217, (.slice Ao15 t218.length co15)] 48 (0, 0))) ∧ Aside0 (IsS121 w0 wc g s0_0 t235) ∧ Aside0 (KeepBut w wc g none) ∧ Aside0 (Below w0.heap.size w0 wc))
          case first =>
           have H := HC58.out
           clear HC58
           by_cases c59 : t234 = 2
           ·rw [if_pos c59] at H
            have c59b0 : (t234 == 2) = true := beq_iff_eq.mpr c59
            have c59b1 : (t234 != 2) = false := bne_eq_false_iff_eq.mpr c59
            clear c59
            (first | rw [c59b0] | (simp only [i64_w, i32_w]; rw [c59b0]) | skip)
            have H' := Aside0.mk H
            clear H
            have hnb60 := NB225_216.out
            have hnc60 := NB216_225.out
            have hnb61 := NB225_0.out
            have hnc61 := NB0_225.out
            have hcz62_0 : wc.cell? ⟨gb225, 0, none⟩ = some (.int .i64 t217) := (blk_cell BK225.out 0).trans rfl
            have hcz62_1 : wc.cell? ⟨gb225, 1, none⟩ = some (.slice Ao15 t218.length co15) := (blk_cell BK225.out 1).trans rfl
            have hfz62_0 := blk_frozen BK225.out 0
            have hfz62_1 := blk_frozen BK225.out 1
            go_wp2
            go_meet
            case rel => exact ⟨_, (decide ((t218.length : Int) > 0)), rsd, H', ⟨by have := HJ7.out; have := HJ38.out; first | omega | exact Nat.le_refl _⟩, ⟨rvR HO_226001.out⟩, ⟨bvK BK216.out⟩, ⟨bvK BK225.out⟩, ⟨by repeat (first | (with_reducible first | exact HI0.out | apply IsS121.alloc | apply IsS121.drewN | apply IsS121.drew | apply IsS121.set_1 | refine IsS121.far ?_ NB0_216.out _ | refine IsS121.far ?_ NB0_225.out _) | exact HI0.out)⟩, ⟨by repeat (first | (with_reducible first | exact HK.out | apply KeepBut.set_ | apply keep_drewN | apply keep_drew | apply keep_alloc | refine keep_far ?_ GW216.out _ | refine keep_far ?_ GW225.out _) | exact HK.out)⟩, ⟨by repeat (first | (with_reducible first | exact HB.out | apply bwA | apply bwN | apply bwD | refine below_set ?_ (IsS121.ge HI0.out) | refine below_set ?_ GE216.out | refine below_set ?_ GE225.out) | exact HB.out)⟩⟩
           ·rw [if_neg c59] at H
            have c59b0 : (t234 == 2) = false := beq_eq_false_iff_ne.mpr c59
            have c59b1 : (t234 != 2) = true := bne_iff_ne.mpr c59
            (first | rw [c59b0] | (simp only [i64_w, i32_w]; rw [c59b0]) | skip)
            have H' := Aside0.mk H
            clear H
            go_wp2
            go_meet
            case rel => exact ⟨_, (false), rsd, H', ⟨by have := HJ7.out; have := HJ38.out; first | omega | exact Nat.le_refl _⟩, ⟨rvR HO_226001.out⟩, ⟨bvK BK216.out⟩, ⟨bvK BK225.out⟩, ⟨by repeat (first | (with_reducible first | exact HI0.out | apply IsS121.alloc | apply IsS121.drewN | apply IsS121.drew | apply IsS121.set_1 | refine IsS121.far ?_ NB0_216.out _ | refine IsS121.far ?_ NB0_225.out _) | exact HI0.out)⟩, ⟨by repeat (first | (with_reducible first | exact HK.out | apply KeepBut.set_ | apply keep_drewN | apply keep_drew | apply keep_alloc | refine keep_far ?_ GW216.out _ | refine keep_far ?_ GW225.out _) | exact HK.out)⟩, ⟨by repeat (first | (with_reducible first | exact HB.out | apply bwA | apply bwN | apply bwD | refine below_set ?_ (IsS121.ge HI0.out) | refine below_set ?_ GE216.out | refine below_set ?_ GE225.out) | exact HB.out)⟩⟩
          case rest =>
           clear HC58
           try clear c1
           try clear c2
           try clear p2
           try clear q2
           try clear hx2
           try clear qi2
           try clear c3
           try clear c4
           try clear c5
           try clear c5b0
           try clear c6
           try clear c6b0
           try clear p6
           try clear c7
           try clear c8
           try clear c11
           try clear c12
           try clear c13
           try clear c18
           try clear c18b0
           try clear c18b1
           try clear c20
           try clear c20b0
           try clear c21
           try clear c21b0
           try clear p22
           try clear q22
           try clear hx22
           try clear p23
           try clear q23
           try clear hx23
           try clear c24
           try clear c24b0
           try clear c24b1
           try clear p24
           try clear q24
           try clear hx24
           try clear qi24
           try clear c26
           try clear c26b0
           try clear c26b1
           try clear c34
           try clear c35
           try clear c37
           try clear c42
           try clear c42b0
           try clear c42b1
           try clear c43
           try clear c44
           try clear c46
           try clear c47
           try clear c47b0
           try clear c47b1
           try clear c48
           try clear c53
           try clear c54
           try clear c56
           try clear c59
           try clear c59b0
           try clear c59b1
           try clear c60
           try clear c61
           try clear hcz14_0
           try clear hcz14_1
           try clear hcz36_0
           try clear hcz36_1
           try clear hcz38_0
           try clear hcz38_1
           try clear hcz45_0
           try clear hcz45_1
           try clear hcz55_0
           try clear hcz55_1
           try clear hcz57_0
           try clear hcz57_1
           try clear hcz62_0
           try clear hcz62_1
           try clear hfz14_0
           try clear hfz14_1
           try clear hfz36_0
           try clear hfz36_1
           try clear hfz38_0
           try clear hfz38_1
           try clear hfz45_0
           try clear hfz45_1
           try clear hfz55_0
           try clear hfz55_1
           try clear hfz57_0
           try clear hfz57_1
           try clear hfz62_0
           try clear hfz62_1
           try clear hx226_0
           try clear hx231_0
           try clear hx241_0
           try clear hx241_1
           try clear hx241_2
           try clear p2
           try clear p22
           try clear p226
           try clear p23
           try clear p231
           try clear p241
           try clear p6
           try clear q2
           try clear q22
           try clear q226
           try clear q23
           try clear q231
           try clear q241
           obtain ⟨kq, x67_57, rfl, HA, HJ57, HO_226001, BK216, BK225, HI0, HK, HB⟩ := hcut
           cases kq with
           | zero => exact absurd HA.out (by simp [spec_l8Any.j2])
           | succ kj57 =>
            have H := HA.out
            clear HA
            simp only [spec_l8Any.j2] at H
            by_cases c63 : x67_57 = true
            ·subst c63
             have H1 : (if 0 < (t218.length : Int) then ((spec_l40Rd_num.f kj57 s0_0 t235 (([1, 2, (-1)] : List Int))).bind fun bt249 => (some (t217, (t218.set (0 : Int).toNat (⟨(rd_T56 t218 0).f0, bt249.1, 1⟩ : S56)), x8_7, bt249.2))) else (none)) = some (r1, r2, r3, r4) := by rw [if_pos rfl] at H; exact H
             clear H
             have H := H1
             clear H1
             by_cases c64 : 0 < (t218.length : Int)
             ·rw [if_pos c64] at H
              have c64b0 : decide (0 < (t218.length : Int)) = true := decide_eq_true c64
              have c64b1 : decide (0 < t218.length) = true := decide_eq_true (by omega)
              clear c64
              obtain ⟨y246, hy246⟩ : ∃ y_ : List Int, y_ = (([1, 2, (-1)] : List Int)) := ⟨_, rfl⟩
              replace H : ((spec_l40Rd_num.f kj57 s0_0 t235 y246).bind fun bt249 => (some (t217, (t218.set (0 : Int).toNat (⟨(rd_T56 t218 0).f0, bt249.1, 1⟩ : S56)), x8_7, bt249.2))) = some (r1, r2, r3, r4) := by first | (rw [hy246]; with_reducible exact H) | (have H2_ := (Option.bind_some _ _).symm.trans H; rw [hy246]; with_reducible exact H2_) | (have H2_ := (Option.bind_some _ _).symm.trans H; with_reducible exact H2_) | with_reducible exact H | (rw [hy246]; exact H) | exact H
              have Ny246 := Aside0.mk hy246
              clear hy246
              replace H := Option.bind_eq_some_iff.mp H
              obtain ⟨⟨t249, t250⟩, A650, H⟩ := H
              replace H : (some (t217, (t218.set (0 : Int).toNat (⟨(rd_T56 t218 0).f0, t249, 1⟩ : S56)), x8_7, t250)) = some (r1, r2, r3, r4) := H
              have A65 := Aside0.mk A650
              clear A650
              obtain ⟨y251, hy251⟩ : ∃ y_ : List (S56), y_ = (t218.set (0 : Int).toNat (⟨(rd_T56 t218 0).f0, t249, 1⟩ : S56)) := ⟨_, rfl⟩
              replace H : (some (t217, y251, x8_7, t250)) = some (r1, r2, r3, r4) := by first | (rw [hy251]; with_reducible exact H) | (have H2_ := (Option.bind_some _ _).symm.trans H; rw [hy251]; with_reducible exact H2_) | (have H2_ := (Option.bind_some _ _).symm.trans H; with_reducible exact H2_) | with_reducible exact H | (rw [hy251]; exact H) | exact H
              have Ny251 := Aside0.mk hy251
              clear hy251
              simp only [Option.some.injEq, Prod.mk.injEq] at H
              obtain ⟨rfl, rfl, rfl, rfl⟩ := H
              try go_wp2
              have n0_ := Aside0.mk (Kd.R_drew HO_226001.out)
              have n1_ := Aside0.mk (blk_drew BK216.out)
              have n2_ := Aside0.mk (blk_drew BK225.out)
              have n3_ := Aside0.mk (IsS121.drew HI0.out)
              have n4_ := Aside0.mk (keep_drew HK.out)
              have n5_ := Aside0.mk (below_drew1 HB.out)
              clear HO_226001
              clear BK216
              clear BK225
              clear HI0
              clear HK
              clear HB
              have HO_226001 := n0_
              have BK216 := n1_
              have BK225 := n2_
              have HI0 := n3_
              have HK := n4_
              have HB := n5_
              clear n0_ n1_ n2_ n3_ n4_ n5_
              have p245 : 0 ≤ (0 : Int) := (by omega)
              have q245 : 0 < (t218.length : Int) := oda
              obtain ⟨ad245, e245, hx245_0, hx245_1, hx245_2⟩ := at_T56 (Kd.R_reads' HO_226001.out).2.2 0 p245 q245
              cases e245
              have qi245 : (0 < t218.length) = True := eq_true (by omega)
              (try rw [show ((0 : Int)).toNat = 0 from rfl] at hx245_0)
              (try rw [show 0 * 3 = 0 from rfl] at hx245_0)
              (try rw [Addr.add_zero'] at hx245_0)
              (try rw [show ((0 : Int)).toNat = 0 from rfl] at hx245_1)
              (try rw [show 0 * 3 = 0 from rfl] at hx245_1)
              (try rw [Addr.add_zero'] at hx245_1)
              (try rw [show ((0 : Int)).toNat = 0 from rfl] at hx245_2)
              (try rw [show 0 * 3 = 0 from rfl] at hx245_2)
              (try rw [Addr.add_zero'] at hx245_2)
              replace p245 := eq_true p245
              replace q245 := eq_true q245
              refine start_ (n := 13) (S := fun w' => w'.cell? ⟨gb225, 0, none⟩ = some (.int .i64 t217) ∧ w'.cell? ⟨gb225, 1, none⟩ = some (.slice (some ad245) t218.length co15) ∧ w'.cell? ad245 = some (.int .i64 ((rd_T56 t218 0).f0)) ∧ w'.cell? ⟨ad245.block, ad245.off + 1, none⟩ = some (.int .i64 ((rd_T56 t218 0).f1)) ∧ w'.cell? ⟨ad245.block, ad245.off + 2, none⟩ = some (.int .i64 ((rd_T56 t218 0).f2))) (ds := [12]) (Pt.bm 13 0) (by kernel_rfl) rfl rfl ⟨(blk_cell BK225.out 0).trans rfl, (blk_cell BK225.out 1).trans rfl, hx245_0, hx245_1, hx245_2⟩ (fun hHeld => ?_); refine with_tabW spec_l8Any.tab12 spec_l8Any.bits12 (fun HT_ HW_ => ?_)
              generalize wc.drew = w67 at HO_226001 BK216 BK225 HI0 HK HB hx245_0 hx245_1 hx245_2 hHeld ⊢
              refine Pt.pu 0 (some 68) (Pt.bm 13 1) (any_of HT_.out (by kernel_rfl)) ?_
              refine Pt.pu 2 (some 70) (Pt.bm 13 5) (any_of HT_.out (by kernel_rfl)) ?_
              refine Pt.pu 7 (some 75) (Pt.bm 13 133) (any_of HT_.out (by kernel_rfl)) ?_
              refine Pt.tk 1 (some 69) (Pt.bm 13 135) rfl rfl (take_ofW HT_.out HW_.out (by kernel_rfl)) hHeld (Or.inl ⟨by rfl, by rintro w' ⟨s0, s1, s2, s3, s4⟩; go_simp; with_reducible rfl⟩) ?_
              refine Pt.tk 3 (some 71) (Pt.bm 13 143) rfl rfl (take_ofW HT_.out HW_.out (by kernel_rfl)) hHeld (Or.inl ⟨by rfl, by rintro w' ⟨s0, s1, s2, s3, s4⟩; go_simp; with_reducible rfl⟩) ?_
              refine Pt.pu 4 (some 72) (Pt.bm 13 159) (any_of HT_.out (by kernel_rfl)) ?_
              refine Pt.pu 5 (some 73) (Pt.bm 13 191) (any_of HT_.out (by kernel_rfl)) ?_
              refine Pt.tk 6 (some 74) (Pt.bm 13 255) rfl rfl (take_ofW HT_.out HW_.out (by kernel_rfl)) hHeld (Or.inl ⟨by rfl, by rintro w' ⟨s0, s1, s2, s3, s4⟩; go_simp; with_reducible rfl⟩) ?_
              refine one_ (i := 8) (N := some 76) (Pt.bm 13 511) rfl rfl (one_of HT_.out (by kernel_rfl)) (by decide) (fun K hK => ?_)
              refine Kd.R_lit_step (Kd.int .i64) _ 3 ?hg (N := 76) ?hd (xs := ([1, 2, (-1)] : List Int)) (inner := [.int .i64 1, .int .i64 2, .int .i64 (-1)]) (ok := fun _ => True) (okp := fun _ => True) ?hr ?hp (fun _ hk => hk) trivial (Below.refl _ _) (Nat.le_refl _) (by simp) ?_; (case hd => rfl); (case hg => rfl); (case hr => first | (go_simp; done) | (go_simp; rfl)); (case hp => exact (Reps.one (show Kd.M (Kd.int .i64) _ _ _ 1 [.int .i64 1] from rfl) (Reps.one (show Kd.M (Kd.int .i64) _ _ _ 2 [.int .i64 2] from rfl) (Reps.one (show Kd.M (Kd.int .i64) _ _ _ (-1) [.int .i64 (-1)] from rfl) (Reps.none _ _)))))
              intro v247 w68 ho69 hb hg_ hnew_
              have HS2_ := (hb.cell (World.block_lt_of_cell? _ _ (hHeld.2.2.1))).trans (hHeld.2.2.1)
              have HS3_ := (hb.cell (World.block_lt_of_cell? _ _ (hHeld.2.2.2.1))).trans (hHeld.2.2.2.1)
              have HS4_ := (hb.cell (World.block_lt_of_cell? _ _ (hHeld.2.2.2.2))).trans (hHeld.2.2.2.2)
              clear hg_ hnew_
              (first | rw [← Ny246.out] at ho69 | (simp only [Int.reduceToNat] at ho69; rw [← Ny246.out] at ho69))
              have n0_ := Aside0.mk (Kd.R_below (rvR HO_226001.out) hb)
              have n1_ := Aside0.mk (Kd.R_lower ho69 (keep_size (w := w) (g := g) (row := none) (by repeat (first | (with_reducible first | exact HK.out | apply KeepBut.set_ | apply keep_drewN | apply keep_drew | apply keep_alloc | refine keep_far ?_ GW216.out _ | refine keep_far ?_ GW225.out _) | exact HK.out))))
              have n2_ := Aside0.mk (blk_below (g := gb216) (o := .cells #[.int .i64 0, .slice none 0 0] 48 (0, 0)) (bvK BK216.out) hb)
              have n3_ := Aside0.mk (blk_below (g := gb225) (o := .cells #[.int .i64 t217, .slice (some ad245) t218.length co15] 48 (0, 0)) (bvK BK225.out) hb)
              have n4_ := Aside0.mk (IsS121.below (by repeat (first | (with_reducible first | exact HI0.out | apply IsS121.alloc | apply IsS121.drewN | apply IsS121.drew | apply IsS121.set_1 | refine IsS121.far ?_ NB0_216.out _ | refine IsS121.far ?_ NB0_225.out _) | exact HI0.out)) hb)
              have n5_ := Aside0.mk (KeepBut.trans (by repeat (first | (with_reducible first | exact HK.out | apply KeepBut.set_ | apply keep_drewN | apply keep_drew | apply keep_alloc | refine keep_far ?_ GW216.out _ | refine keep_far ?_ GW225.out _) | exact HK.out)) (KeepBut.of_below hb g none) (.inl rfl))
              have n6_ := Aside0.mk (below_step (by repeat (first | (with_reducible first | exact HB.out | apply bwA | apply bwN | apply bwD | refine below_set ?_ (IsS121.ge HI0.out) | refine below_set ?_ GE216.out | refine below_set ?_ GE225.out) | exact HB.out)) hb)
              clear HO_226001
              clear BK216
              clear BK225
              clear HI0
              clear HK
              clear HB
              have HO_226001 := n0_
              have HO248 := n1_
              have BK216 := n2_
              have BK225 := n3_
              have HI0 := n4_
              have HK := n5_
              have HB := n6_
              clear n0_ n1_ n2_ n3_ n4_ n5_ n6_
              clear hb ho69
              obtain ⟨Ao70, co70, eo70⟩ := Kd.R_slice HO248.out
              (first | subst eo70 | (injection eo70 with f1_ f2_ f3_; have f4_ := f1_.symm; have f5_ := f3_.symm; clear f1_ f2_ f3_; subst f4_; subst f5_))
              refine hK.out _ _ ⟨(blk_cell BK225.out 0).trans rfl, (blk_cell BK225.out 1).trans rfl, HS2_, HS3_, HS4_⟩ (fun hHeld => ?_)
              clear hK K
              refine norm_ (a' := ?_) ?_ ?_
              rotate_left
              ·show Act.put _ (some 76) _ = _
               simp only [Act.put, List.setIfInBounds_toArray, List.set_cons_zero, List.set_cons_succ, i64_w, i32_w]
               rfl
              refine one_ (i := 9) (N := some 77) (Pt.bm 13 1023) rfl rfl (one_of HT_.out (by kernel_rfl)) (by decide) (fun K hK => ?_)
              refine goes_ Try.func80 (by kernel_rfl) rfl #[.pointer (some ⟨g, 0, none⟩), .slice Ao70 y246.length co70] (by rfl) rfl rfl lmB ?_
              with_reducible refine (spec_l40Rd_num.calls kj57 g s0_0 t235 _ _ y246 t249 t250 w0 _ ?side1 ?side2 ?side3 ?side4 ?side5 A65.out).mono ?_
              (case side1 => repeat (first | (with_reducible first | exact HI0.out | apply IsS121.alloc | apply IsS121.drewN | apply IsS121.drew | apply IsS121.set_1 | refine IsS121.far ?_ NB0_216.out _ | refine IsS121.far ?_ NB0_225.out _) | exact HI0.out))
              (case side2 => repeat (first | (with_reducible first | exact HB.out | apply bwA | apply bwN | apply bwD | refine below_set ?_ (IsS121.ge HI0.out) | refine below_set ?_ GE216.out | refine below_set ?_ GE225.out) | exact HB.out))
              (case side3 => repeat (first | exact (Kd.R_reads' HO248.out).2.2 | (with_reducible refine Kd.C_alloc ?_ _) | (with_reducible refine Kd.C_drewN ?_ _) | (with_reducible refine Kd.C_drew ?_)))
              (case side4 => exact (Kd.R_reads' HO248.out).2.1)
              (case side5 => exact far_slice (IsS121.own_ne HI0.out HO248.out (by decide)))
              rintro e w71 ⟨rfl, hi, hb, hk⟩
              have HS2_ := keep_cell hk (hHeld.2.2.1) (by first | (rw [add_block]; exact Kd.own_blk (IsS121.own_ne HI0.out HO_226001.out (by decide))) | (show (Addr.add _ _).block ≠ _; rw [add_block]; exact Kd.own_blk (IsS121.own_ne HI0.out HO_226001.out (by decide))) | exact Kd.own_blk (IsS121.own_ne HI0.out HO_226001.out (by decide)) | (have q_ := Kd.own_blk (IsS121.own_ne HI0.out HO_226001.out (by decide)); exact q_))
              have HS3_ := keep_cell hk (hHeld.2.2.2.1) (by first | (rw [add_block]; exact Kd.own_blk (IsS121.own_ne HI0.out HO_226001.out (by decide))) | (show (Addr.add _ _).block ≠ _; rw [add_block]; exact Kd.own_blk (IsS121.own_ne HI0.out HO_226001.out (by decide))) | exact Kd.own_blk (IsS121.own_ne HI0.out HO_226001.out (by decide)) | (have q_ := Kd.own_blk (IsS121.own_ne HI0.out HO_226001.out (by decide)); exact q_))
              have HS4_ := keep_cell hk (hHeld.2.2.2.2) (by first | (rw [add_block]; exact Kd.own_blk (IsS121.own_ne HI0.out HO_226001.out (by decide))) | (show (Addr.add _ _).block ≠ _; rw [add_block]; exact Kd.own_blk (IsS121.own_ne HI0.out HO_226001.out (by decide))) | exact Kd.own_blk (IsS121.own_ne HI0.out HO_226001.out (by decide)) | (have q_ := Kd.own_blk (IsS121.own_ne HI0.out HO_226001.out (by decide)); exact q_))
              refine ⟨_, rfl, ?_⟩
              have n0_ := Aside0.mk (Kd.R_mono (Kd.R_keep (IsS121.apart (show IsS121 w0 _ g s0_0 t235 from by repeat (first | (with_reducible first | exact HI0.out | apply IsS121.alloc | apply IsS121.drewN | apply IsS121.drew | apply IsS121.set_1 | refine IsS121.far ?_ NB0_216.out _ | refine IsS121.far ?_ NB0_225.out _) | exact HI0.out)) (rvR HO_226001.out) (by decide)) hk (fun _ h => h.2)) (fun _ h => h.1))
              have n1_ := Aside0.mk (KeepBut.blk hk (g' := gb216) (o := .cells #[.int .i64 0, .slice none 0 0] 48 (0, 0)) (bvK BK216.out) NB216_0.out (by simp))
              have n2_ := Aside0.mk (KeepBut.blk hk (g' := gb225) (o := .cells #[.int .i64 t217, .slice (some ad245) t218.length co15] 48 (0, 0)) (bvK BK225.out) NB225_0.out (by simp))
              have n3_ := Aside0.mk (Kd.R_mono (Kd.R_keep (IsS121.apart (show IsS121 w0 _ g s0_0 t235 from by repeat (first | (with_reducible first | exact HI0.out | apply IsS121.alloc | apply IsS121.drewN | apply IsS121.drew | apply IsS121.set_1 | refine IsS121.far ?_ NB0_216.out _ | refine IsS121.far ?_ NB0_225.out _) | exact HI0.out)) (rvR HO248.out) (by decide)) hk (fun _ h => h.2)) (fun _ h => h.1))
              have n4_ := Aside0.mk (KeepBut.trans (by repeat (first | (with_reducible first | exact HK.out | apply KeepBut.set_ | apply keep_drewN | apply keep_drew | apply keep_alloc | refine keep_far ?_ GW216.out _ | refine keep_far ?_ GW225.out _) | exact HK.out)) hk (.inl rfl))
              have n5_ := Aside0.mk (hb)
              have n6_ := Aside0.mk (hi)
              clear HO_226001
              clear BK216
              clear BK225
              clear HO248
              clear HK
              clear HB
              clear HI0
              have HO_226001 := n0_
              have BK216 := n1_
              have BK225 := n2_
              have HO248 := n3_
              have HK := n4_
              have HB := n5_
              have HI0 := n6_
              clear n0_ n1_ n2_ n3_ n4_ n5_ n6_
              (try clear hb)
              (try clear hb2)
              (try clear hk)
              (try clear hi)
              have p66 : 0 ≤ (0 : Int) := (by omega)
              have q66 : (0 : Int) < ((t218.length : Int) : Int) := oda
              have qi66 : (0 < t218.length) = True := eq_true (by omega)
              obtain ⟨go66, co66, eo66, gb66, gl66, cl66, HG66⟩ := Kd.R_form HO_226001.out (by omega)
              (first | cases eo66 | (injection eo66 with ea_ en_ ec_; (first | subst ea_ | (injection ea_ with ea_; subst ea_)); subst ec_; clear en_))
              have GB66 := Aside0.mk gb66
              have GG66 := Aside0.mk HG66
              clear gb66 gl66 HG66
              (first | simp only [add_plain] at hx245_0 | skip)
              (first | simp only [add_plain] at hx245_1 | skip)
              (first | simp only [add_plain] at hx245_2 | skip)
              obtain ⟨ce66, hcl66, hM66, hcc66, hfr66⟩ := Kd.R_elem HO_226001.out z56 (0 : Int) p66 q66
              obtain rfl := k56_openM hM66
              have hx66_0 : World.cell? _ ⟨go66, (0 : Int).toNat * 3, none⟩ = some (.int .i64 ((rd_T56 t218 0).f0)) := hcc66 0 _ rfl
              have hx66_1 : World.cell? _ ⟨go66, (0 : Int).toNat * 3 + 1, none⟩ = some (.int .i64 ((rd_T56 t218 0).f1)) := hcc66 1 _ rfl
              have hx66_2 : World.cell? _ ⟨go66, (0 : Int).toNat * 3 + 2, none⟩ = some (.int .i64 ((rd_T56 t218 0).f2)) := hcc66 2 _ rfl
              have hf66_0 : World.frozen? _ ⟨go66, (0 : Int).toNat * 3, none⟩ = false := hfr66 0
              have hf66_1 : World.frozen? _ ⟨go66, (0 : Int).toNat * 3 + 1, none⟩ = false := hfr66 1
              have hf66_2 : World.frozen? _ ⟨go66, (0 : Int).toNat * 3 + 2, none⟩ = false := hfr66 2
              clear hcl66 hcc66 hfr66; (try clear hM66)
              (try rw [show ((0 : Int)).toNat = 0 from rfl] at hx66_0)
              (try simp only [Nat.reduceMul, Nat.zero_mul, Nat.zero_add, Nat.reduceAdd] at hx66_0)
              (try rw [show ((0 : Int)).toNat = 0 from rfl] at hf66_0)
              (try simp only [Nat.reduceMul, Nat.zero_mul, Nat.zero_add, Nat.reduceAdd] at hf66_0)
              (try rw [show ((0 : Int)).toNat = 0 from rfl] at hx66_1)
              (try simp only [Nat.reduceMul, Nat.zero_mul, Nat.zero_add, Nat.reduceAdd] at hx66_1)
              (try rw [show ((0 : Int)).toNat = 0 from rfl] at hf66_1)
              (try simp only [Nat.reduceMul, Nat.zero_mul, Nat.zero_add, Nat.reduceAdd] at hf66_1)
              (try rw [show ((0 : Int)).toNat = 0 from rfl] at hx66_2)
              (try simp only [Nat.reduceMul, Nat.zero_mul, Nat.zero_add, Nat.reduceAdd] at hx66_2)
              (try rw [show ((0 : Int)).toNat = 0 from rfl] at hf66_2)
              (try simp only [Nat.reduceMul, Nat.zero_mul, Nat.zero_add, Nat.reduceAdd] at hf66_2)
              replace p66 := eq_true p66
              replace q66 := eq_true q66
              have HN0_go66 := Aside0.mk (show g ≠ go66 from by have h_ := IsS121.own_ne HI0.out HO_226001.out (by decide); intro e_; exact h_ (by rw [e_]; rfl))
              obtain ⟨ce72, hcl72, hM72, hcc72, hfr72⟩ := Kd.R_elem HO_226001.out z56 (0 : Int) (by omega) (by have h_ : (0 : Int) < ((t218.length : Int) : Int) := oda; first | exact h_ | (have e_ := (Kd.R_reads' HO_226001.out).1; omega) | simpa using h_)
              obtain rfl := k56_openM hM72
              have HP72 := (Kd.R_seg HO_226001.out (0 : Int) (by omega) (by have h_ : (0 : Int) < ((t218.length : Int) : Int) := oda; first | exact h_ | (have e_ := (Kd.R_reads' HO_226001.out).1; omega) | simpa using h_) (seg := [.int .i64 ((rd_T56 t218 0).f0), .int .i64 t249, .int .i64 1]) (j := 0) hcl72 hcc72 (show 3 ≤ 3 from by decide) (x' := (⟨(rd_T56 t218 0).f0, t249, 1⟩ : S56)) (k56_mkM _ _ _ (⟨(rd_T56 t218 0).f0, t249, 1⟩ : S56) ) (fun _ hk => hk)).1
              rw [← Ny251.out] at HP72
              have HQ72 := Aside0.mk HP72
              clear hcl72 hcc72 hfr72 HP72; (try clear hM72)
              refine hK.out _ _ ⟨(blk_cell BK225.out 0).trans rfl, (blk_cell BK225.out 1).trans rfl, HS2_, HS3_, HS4_⟩ (fun hHeld => ?_)
              clear hK K
              refine norm_ (a' := ?_) ?_ ?_
              rotate_left
              ·show Act.put _ (some 77) _ = _
               simp only [Act.put, List.setIfInBounds_toArray, List.set_cons_zero, List.set_cons_succ, i64_w, i32_w]
               rfl
              refine Pt.pu 10 (some 78) (Pt.bm 13 2047) (any_of HT_.out (by kernel_rfl)) ?_
              refine Pt.pu 11 (some 79) (Pt.bm 13 4095) (any_of HT_.out (by kernel_rfl)) ?_
              refine last_ (i := 12) (N := none) (Pt.bm 13 8191) rfl rfl (one_of HT_.out (by kernel_rfl)) (by decide) (fun K hK => ?_)
              refine skip_ (w1 := ?_) (by rfl) rfl ?_ ?_
              rotate_left
              ·go_simp
               rfl
              refine hK.out _ _ ?_
              clear hK K
              refine done_ (done_of HT_.out (by kernel_rfl)) ?_
              have n0_ : Aside0 (Kd.R k56 56 (((w71.setCell ⟨go66, 0, none⟩ (.int .i64 ((rd_T56 t218 0).f0))).setCell ⟨go66, 1, none⟩ (.int .i64 t249)).setCell ⟨go66, 2, none⟩ (.int .i64 1)) w.heap.size (fun _ => True) (.slice (some ⟨go66, 0, none⟩) t218.length co15) y251) := ⟨rvR HQ72.out⟩
              have n1_ : Aside0 (Kd.R (Kd.int .i64) 3 (((w71.setCell ⟨go66, 0, none⟩ (.int .i64 ((rd_T56 t218 0).f0))).setCell ⟨go66, 1, none⟩ (.int .i64 t249)).setCell ⟨go66, 2, none⟩ (.int .i64 1)) w.heap.size (fun _ => True) (.slice Ao70 y246.length co70) y246) := ⟨by (with_reducible repeat first | apply rvA | apply rvN | apply rvD); exact Kd.R_mono (Kd.R_far (p := ⟨go66, 2, none⟩) (Kd.R_far (p := ⟨go66, 1, none⟩) (Kd.R_far (p := ⟨go66, 0, none⟩) (Kd.R_types HO248.out GG66.out (by decide)) (fun _ hk => hk.2) (.int .i64 ((rd_T56 t218 0).f0))) (fun _ hk => hk.2) (.int .i64 t249)) (fun _ hk => hk.2) (.int .i64 1)) (fun _ hk => trivial)⟩
              have n2_ : Aside0 ((((w71.setCell ⟨go66, 0, none⟩ (.int .i64 ((rd_T56 t218 0).f0))).setCell ⟨go66, 1, none⟩ (.int .i64 t249)).setCell ⟨go66, 2, none⟩ (.int .i64 1)).heap[gb216]? = some (.cells #[.int .i64 0, .slice none 0 0] 48 (0, 0))) := ⟨by (with_reducible repeat first | apply bkN | apply bkD | apply bkA); refine blk_far ?_ (by have h_ := Kd.R_ne HO_226001.out BK216.out (by decide); intro e_; exact h_ (by rw [e_]; rfl)) _; (with_reducible repeat first | apply bkN | apply bkD | apply bkA); refine blk_far ?_ (by have h_ := Kd.R_ne HO_226001.out BK216.out (by decide); intro e_; exact h_ (by rw [e_]; rfl)) _; (with_reducible repeat first | apply bkN | apply bkD | apply bkA); refine blk_far ?_ (by have h_ := Kd.R_ne HO_226001.out BK216.out (by decide); intro e_; exact h_ (by rw [e_]; rfl)) _; (with_reducible repeat first | apply bkN | apply bkD | apply bkA); exact BK216.out⟩
              have n3_ : Aside0 ((((w71.setCell ⟨go66, 0, none⟩ (.int .i64 ((rd_T56 t218 0).f0))).setCell ⟨go66, 1, none⟩ (.int .i64 t249)).setCell ⟨go66, 2, none⟩ (.int .i64 1)).heap[gb225]? = some (.cells #[.int .i64 t217, .slice (some ⟨go66, 0, none⟩) t218.length co15] 48 (0, 0))) := ⟨by (with_reducible repeat first | apply bkN | apply bkD | apply bkA); refine blk_far ?_ (by have h_ := Kd.R_ne HO_226001.out BK225.out (by decide); intro e_; exact h_ (by rw [e_]; rfl)) _; (with_reducible repeat first | apply bkN | apply bkD | apply bkA); refine blk_far ?_ (by have h_ := Kd.R_ne HO_226001.out BK225.out (by decide); intro e_; exact h_ (by rw [e_]; rfl)) _; (with_reducible repeat first | apply bkN | apply bkD | apply bkA); refine blk_far ?_ (by have h_ := Kd.R_ne HO_226001.out BK225.out (by decide); intro e_; exact h_ (by rw [e_]; rfl)) _; (with_reducible repeat first | apply bkN | apply bkD | apply bkA); exact BK225.out⟩
              have n4_ : Aside0 (IsS121 w0 (((w71.setCell ⟨go66, 0, none⟩ (.int .i64 ((rd_T56 t218 0).f0))).setCell ⟨go66, 1, none⟩ (.int .i64 t249)).setCell ⟨go66, 2, none⟩ (.int .i64 1)) g s0_0 t250) := ⟨by repeat (first | (with_reducible first | exact HI0.out | apply IsS121.alloc | apply IsS121.drewN | apply IsS121.drew | apply IsS121.set_1 | refine IsS121.far ?_ HN0_go66.out _ | refine IsS121.far ?_ HN0_go66.out _ | refine IsS121.far ?_ HN0_go66.out _ | refine IsS121.far ?_ NB0_216.out _ | refine IsS121.far ?_ NB0_225.out _) | exact HI0.out)⟩
              have n5_ : Aside0 (KeepBut w (((w71.setCell ⟨go66, 0, none⟩ (.int .i64 ((rd_T56 t218 0).f0))).setCell ⟨go66, 1, none⟩ (.int .i64 t249)).setCell ⟨go66, 2, none⟩ (.int .i64 1)) g none) := ⟨by repeat (first | (with_reducible first | exact HK.out | apply KeepBut.set_ | apply keep_drewN | apply keep_drew | apply keep_alloc | refine keep_far ?_ GB66.out _ | refine keep_far ?_ GB66.out _ | refine keep_far ?_ GB66.out _ | refine keep_far ?_ GW216.out _ | refine keep_far ?_ GW225.out _) | exact HK.out)⟩
              have n6_ : Aside0 (Below w0.heap.size w0 (((w71.setCell ⟨go66, 0, none⟩ (.int .i64 ((rd_T56 t218 0).f0))).setCell ⟨go66, 1, none⟩ (.int .i64 t249)).setCell ⟨go66, 2, none⟩ (.int .i64 1))) := ⟨by repeat (first | (with_reducible first | exact HB.out | apply bwA | apply bwN | apply bwD | refine below_set ?_ (Nat.le_trans HL.out GB66.out) | refine below_set ?_ (Nat.le_trans HL.out GB66.out) | refine below_set ?_ (Nat.le_trans HL.out GB66.out) | refine below_set ?_ (IsS121.ge HI0.out) | refine below_set ?_ GE216.out | refine below_set ?_ GE225.out) | exact HB.out)⟩
              (try clear HO_226001)
              (try clear HO248)
              (try clear BK216)
              (try clear BK225)
              (try clear HI0)
              (try clear HK)
              (try clear HB)
              generalize (((w71.setCell ⟨go66, 0, none⟩ (.int .i64 ((rd_T56 t218 0).f0))).setCell ⟨go66, 1, none⟩ (.int .i64 t249)).setCell ⟨go66, 2, none⟩ (.int .i64 1)) = w73 at n0_ n1_ n2_ n3_ n4_ n5_ n6_ ⊢
              have HO_226001 := n0_
              have HO248 := n1_
              have BK216 := n2_
              have BK225 := n3_
              have HI0 := n4_
              have HK := n5_
              have HB := n6_
              clear n0_ n1_ n2_ n3_ n4_ n5_ n6_
              have hnb74 := NB225_216.out
              have hnc74 := NB216_225.out
              have hnb75 := NB225_0.out
              have hnc75 := NB0_225.out
              have hcz76_0 : w73.cell? ⟨gb225, 0, none⟩ = some (.int .i64 t217) := (blk_cell BK225.out 0).trans rfl
              have hcz76_1 : w73.cell? ⟨gb225, 1, none⟩ = some (.slice (some ⟨go66, 0, none⟩) t218.length co15) := (blk_cell BK225.out 1).trans rfl
              have hfz76_0 := blk_frozen BK225.out 0
              have hfz76_1 := blk_frozen BK225.out 1
              have hnb77 := NB216_0.out
              have hnc77 := NB0_216.out
              have hcz78_0 : w73.cell? ⟨gb216, 0, none⟩ = some (.int .i64 0) := (blk_cell BK216.out 0).trans rfl
              have hcz78_1 : w73.cell? ⟨gb216, 1, none⟩ = some (.slice none 0 0) := (blk_cell BK216.out 1).trans rfl
              have hfz78_0 := blk_frozen BK216.out 0
              have hfz78_1 := blk_frozen BK216.out 1
              try go_wp2
              refine bodyPost_ret (results_ct rfl _ _ gb216 48 #[.int .i64 t217, .slice (some ⟨go66, 0, none⟩) t218.length co15] (0, 0) _ rfl (by (with_reducible repeat first | apply bkN | apply bkD | apply bkA); refine blk_put (cs := #[.int .i64 t217, .slice none 0 0]) ?_ 1 _ rfl; (with_reducible repeat first | apply bkN | apply bkD | apply bkA); refine blk_put (cs := #[.int .i64 0, .slice none 0 0]) ?_ 0 _ rfl; (with_reducible repeat first | apply bkN | apply bkD | apply bkA); exact BK216.out) Try.underlying48 rfl (by kernel_rfl)) rfl ?_
              exact ⟨_, by first | rfl | (simp [errW_none, errW_some] <;> rfl) | (simp only [← hji4]; first | rfl | (simp [errW_none, errW_some] <;> rfl)) | (simp [*, errW_none, errW_some] <;> rfl), by (with_reducible repeat first | apply rvA | apply rvN | apply rvD); exact Kd.R_mono (Kd.R_far (p := ⟨gb216, 1, none⟩) (Kd.R_far (p := ⟨gb216, 0, none⟩) (Kd.R_types HO_226001.out BK216.out (by decide)) (fun _ hk => hk.2) (.int .i64 t217)) (fun _ hk => hk.2) (.slice (some ⟨go66, 0, none⟩) t218.length co15)) (fun _ hk => trivial), by repeat (first | (with_reducible first | exact HI0.out | apply IsS121.alloc | apply IsS121.drewN | apply IsS121.drew | apply IsS121.set_1 | refine IsS121.far ?_ NB0_216.out _ | refine IsS121.far ?_ NB0_225.out _) | exact HI0.out), by repeat (first | (with_reducible first | exact HB.out | apply bwA | apply bwN | apply bwD | refine below_set ?_ (IsS121.ge HI0.out) | refine below_set ?_ GE216.out | refine below_set ?_ GE225.out) | exact HB.out), by repeat (first | (with_reducible first | exact HK.out | apply KeepBut.set_ | apply keep_drewN | apply keep_drew | apply keep_alloc | refine keep_far ?_ GW216.out _ | refine keep_far ?_ GW225.out _) | exact HK.out)⟩
             ·rw [if_neg c64] at H
              exact absurd H (by simp)
            ·replace c63 := Bool.eq_false_iff.mpr c63
             subst c63
             have H1 : ((spec_l40Rd_num.f kj57 s0_0 t235 (([wrap64 ((t218.length : Int) + 2), (-1)] : List Int))).bind fun bt255 => (some (t217, t218, bt255.1, bt255.2))) = some (r1, r2, r3, r4) := by rw [if_neg (show ¬ (false = true) by decide)] at H; exact H
             clear H
             have H := H1
             clear H1
             obtain ⟨y252, hy252⟩ : ∃ y_ : List Int, y_ = (([wrap64 ((t218.length : Int) + 2), (-1)] : List Int)) := ⟨_, rfl⟩
             replace H : ((spec_l40Rd_num.f kj57 s0_0 t235 y252).bind fun bt255 => (some (t217, t218, bt255.1, bt255.2))) = some (r1, r2, r3, r4) := by first | (rw [hy252]; with_reducible exact H) | (have H2_ := (Option.bind_some _ _).symm.trans H; rw [hy252]; with_reducible exact H2_) | (have H2_ := (Option.bind_some _ _).symm.trans H; with_reducible exact H2_) | with_reducible exact H | (rw [hy252]; exact H) | exact H
             have Ny252 := Aside0.mk hy252
             clear hy252
             replace H := Option.bind_eq_some_iff.mp H
             obtain ⟨⟨t255, t256⟩, A790, H⟩ := H
             replace H : (some (t217, t218, t255, t256)) = some (r1, r2, r3, r4) := H
             have A79 := Aside0.mk A790
             clear A790
             simp only [Option.some.injEq, Prod.mk.injEq] at H
             obtain ⟨rfl, rfl, rfl, rfl⟩ := H
             have hnb80 := NB225_216.out
             have hnc80 := NB216_225.out
             have hnb81 := NB225_0.out
             have hnc81 := NB0_225.out
             have hcz82_0 : wc.cell? ⟨gb225, 0, none⟩ = some (.int .i64 t217) := (blk_cell BK225.out 0).trans rfl
             have hcz82_1 : wc.cell? ⟨gb225, 1, none⟩ = some (.slice Ao15 t218.length co15) := (blk_cell BK225.out 1).trans rfl
             have hfz82_0 := blk_frozen BK225.out 0
             have hfz82_1 := blk_frozen BK225.out 1
             go_wp2_with (first | ((with_reducible refine gate_dst (N := 85) rfl ?_); (try (refine gate_guard (by rfl) ?_; dsimp only)); refine Kd.R_lit (Kd.int .i64) _ 3 ?hg (N := 85) ?hd (xs := ([wrap64 ((t218.length : Int) + 2), (-1)] : List Int)) (inner := [.int .i64 (wrap64 ((t218.length : Int) + 2)), .int .i64 (-1)]) (ok := fun _ => True) (okp := fun _ => True) ?hr ?hp (fun _ hk => hk) trivial (Below.refl _ _) (Nat.le_refl _) (by simp) ?_; (case hd => rfl); (case hg => rfl); (case hr => first | (go_simp; done) | (go_simp; rfl)); (case hp => exact (Reps.one (show Kd.M (Kd.int .i64) _ _ _ (wrap64 ((t218.length : Int) + 2)) [.int .i64 (wrap64 ((t218.length : Int) + 2))] from rfl) (Reps.one (show Kd.M (Kd.int .i64) _ _ _ (-1) [.int .i64 (-1)] from rfl) (Reps.none _ _)))); intro v253 w83 ho84 hb hg_ hnew_; clear hg_ hnew_; (first | rw [← Ny252.out] at ho84 | (simp only [Int.reduceToNat] at ho84; rw [← Ny252.out] at ho84)); have n0_ := Aside0.mk (Kd.R_below (rvR HO_226001.out) hb); have n1_ := Aside0.mk (Kd.R_lower ho84 (keep_size (w := w) (g := g) (row := none) (by repeat (first | (with_reducible first | exact HK.out | apply KeepBut.set_ | apply keep_drewN | apply keep_drew | apply keep_alloc | refine keep_far ?_ GW216.out _ | refine keep_far ?_ GW225.out _) | exact HK.out)))); have n2_ := Aside0.mk (blk_below (g := gb216) (o := .cells #[.int .i64 0, .slice none 0 0] 48 (0, 0)) (bvK BK216.out) hb); have n3_ := Aside0.mk (blk_below (g := gb225) (o := .cells #[.int .i64 t217, .slice Ao15 t218.length co15] 48 (0, 0)) (bvK BK225.out) hb); have n4_ := Aside0.mk (IsS121.below (by repeat (first | (with_reducible first | exact HI0.out | apply IsS121.alloc | apply IsS121.drewN | apply IsS121.drew | apply IsS121.set_1 | refine IsS121.far ?_ NB0_216.out _ | refine IsS121.far ?_ NB0_225.out _) | exact HI0.out)) hb); have n5_ := Aside0.mk (KeepBut.trans (by repeat (first | (with_reducible first | exact HK.out | apply KeepBut.set_ | apply keep_drewN | apply keep_drew | apply keep_alloc | refine keep_far ?_ GW216.out _ | refine keep_far ?_ GW225.out _) | exact HK.out)) (KeepBut.of_below hb g none) (.inl rfl)); have n6_ := Aside0.mk (below_step (by repeat (first | (with_reducible first | exact HB.out | apply bwA | apply bwN | apply bwD | refine below_set ?_ (IsS121.ge HI0.out) | refine below_set ?_ GE216.out | refine below_set ?_ GE225.out) | exact HB.out)) hb); clear HO_226001; clear BK216; clear BK225; clear HI0; clear HK; clear HB; have HO_226001 := n0_; have HO254 := n1_; have BK216 := n2_; have BK225 := n3_; have HI0 := n4_; have HK := n5_; have HB := n6_; clear n0_ n1_ n2_ n3_ n4_ n5_ n6_; clear hb ho84; obtain ⟨Ao85, co85, eo85⟩ := Kd.R_slice HO254.out; subst eo85) | ((with_reducible refine gate_callee (f := 80) rfl ?_); refine goesL_ (some 86) rfl rfl Try.func80 (by kernel_rfl) rfl #[.pointer (some ⟨g, 0, none⟩), .slice Ao85 y252.length co85] rfl lmB ?_; (with_reducible refine (spec_l40Rd_num.calls kj57 g s0_0 t235 _ _ y252 t255 t256 w0 _ ?side1 ?side2 ?side3 ?side4 ?side5 A79.out).mono ?_); (case side1 => repeat (first | (with_reducible first | exact HI0.out | apply IsS121.alloc | apply IsS121.drewN | apply IsS121.drew | apply IsS121.set_1 | refine IsS121.far ?_ NB0_216.out _ | refine IsS121.far ?_ NB0_225.out _) | exact HI0.out)); (case side2 => repeat (first | (with_reducible first | exact HB.out | apply bwA | apply bwN | apply bwD | refine below_set ?_ (IsS121.ge HI0.out) | refine below_set ?_ GE216.out | refine below_set ?_ GE225.out) | exact HB.out)); (case side3 => repeat (first | exact (Kd.R_reads' HO254.out).2.2 | (with_reducible refine Kd.C_alloc ?_ _) | (with_reducible refine Kd.C_drewN ?_ _) | (with_reducible refine Kd.C_drew ?_))); (case side4 => exact (Kd.R_reads' HO254.out).2.1); (case side5 => exact far_slice (IsS121.own_ne HI0.out HO254.out (by decide))); rintro e w86 ⟨rfl, hi, hb, hk⟩; refine ⟨_, rfl, ?_⟩; have n0_ := Aside0.mk (Kd.R_mono (Kd.R_keep (IsS121.apart (show IsS121 w0 _ g s0_0 t235 from by repeat (first | (with_reducible first | exact HI0.out | apply IsS121.alloc | apply IsS121.drewN | apply IsS121.drew | apply IsS121.set_1 | refine IsS121.far ?_ NB0_216.out _ | refine IsS121.far ?_ NB0_225.out _) | exact HI0.out)) (rvR HO_226001.out) (by decide)) hk (fun _ h => h.2)) (fun _ h => h.1)); have n1_ := Aside0.mk (KeepBut.blk hk (g' := gb216) (o := .cells #[.int .i64 0, .slice none 0 0] 48 (0, 0)) (bvK BK216.out) NB216_0.out (by simp)); have n2_ := Aside0.mk (KeepBut.blk hk (g' := gb225) (o := .cells #[.int .i64 t217, .slice Ao15 t218.length co15] 48 (0, 0)) (bvK BK225.out) NB225_0.out (by simp)); have n3_ := Aside0.mk (Kd.R_mono (Kd.R_keep (IsS121.apart (show IsS121 w0 _ g s0_0 t235 from by repeat (first | (with_reducible first | exact HI0.out | apply IsS121.alloc | apply IsS121.drewN | apply IsS121.drew | apply IsS121.set_1 | refine IsS121.far ?_ NB0_216.out _ | refine IsS121.far ?_ NB0_225.out _) | exact HI0.out)) (rvR HO254.out) (by decide)) hk (fun _ h => h.2)) (fun _ h => h.1)); have n4_ := Aside0.mk (KeepBut.trans (by repeat (first | (with_reducible first | exact HK.out | apply KeepBut.set_ | apply keep_drewN | apply keep_drew | apply keep_alloc | refine keep_far ?_ GW216.out _ | refine keep_far ?_ GW225.out _) | exact HK.out)) hk (.inl rfl)); have n5_ := Aside0.mk (hb); have n6_ := Aside0.mk (hi); clear HO_226001; clear BK216; clear BK225; clear HO254; clear HK; clear HB; clear HI0; have HO_226001 := n0_; have BK216 := n1_; have BK225 := n2_; have HO254 := n3_; have HK := n4_; have HB := n5_; have HI0 := n6_; clear n0_ n1_ n2_ n3_ n4_ n5_ n6_; (try clear hb); (try clear hb2); (try clear hk); (try clear hi); have hcz87_0 : w86.cell? ⟨gb225, 0, none⟩ = some (.int .i64 t217) := (blk_cell BK225.out 0).trans rfl; have hcz87_1 : w86.cell? ⟨gb225, 1, none⟩ = some (.slice Ao15 t218.length co15) := (blk_cell BK225.out 1).trans rfl; have hfz87_0 := blk_frozen BK225.out 0; have hfz87_1 := blk_frozen BK225.out 1; have hnb88 := NB216_0.out; have hnc88 := NB0_216.out; have hcz89_0 : w86.cell? ⟨gb216, 0, none⟩ = some (.int .i64 0) := (blk_cell BK216.out 0).trans rfl; have hcz89_1 : w86.cell? ⟨gb216, 1, none⟩ = some (.slice none 0 0) := (blk_cell BK216.out 1).trans rfl; have hfz89_0 := blk_frozen BK216.out 0; have hfz89_1 := blk_frozen BK216.out 1))
             refine bodyPost_ret (results_ct rfl _ _ gb216 48 #[.int .i64 t217, .slice Ao15 t218.length co15] (0, 0) _ rfl (by (with_reducible repeat first | apply bkN | apply bkD | apply bkA); refine blk_put (cs := #[.int .i64 t217, .slice none 0 0]) ?_ 1 _ rfl; (with_reducible repeat first | apply bkN | apply bkD | apply bkA); refine blk_put (cs := #[.int .i64 0, .slice none 0 0]) ?_ 0 _ rfl; (with_reducible repeat first | apply bkN | apply bkD | apply bkA); exact BK216.out) Try.underlying48 rfl (by kernel_rfl)) rfl ?_
             exact ⟨_, by first | rfl | (simp [errW_none, errW_some] <;> rfl) | (simp only [← hji4]; first | rfl | (simp [errW_none, errW_some] <;> rfl)) | (simp [*, errW_none, errW_some] <;> rfl), by (with_reducible repeat first | apply rvA | apply rvN | apply rvD); exact Kd.R_mono (Kd.R_far (p := ⟨gb216, 1, none⟩) (Kd.R_far (p := ⟨gb216, 0, none⟩) (Kd.R_types HO_226001.out BK216.out (by decide)) (fun _ hk => hk.2) (.int .i64 t217)) (fun _ hk => hk.2) (.slice Ao15 t218.length co15)) (fun _ hk => trivial), by repeat (first | (with_reducible first | exact HI0.out | apply IsS121.alloc | apply IsS121.drewN | apply IsS121.drew | apply IsS121.set_1 | refine IsS121.far ?_ NB0_216.out _ | refine IsS121.far ?_ NB0_225.out _) | exact HI0.out), by repeat (first | (with_reducible first | exact HB.out | apply bwA | apply bwN | apply bwD | refine below_set ?_ (IsS121.ge HI0.out) | refine below_set ?_ GE216.out | refine below_set ?_ GE225.out) | exact HB.out), by repeat (first | (with_reducible first | exact HK.out | apply KeepBut.set_ | apply keep_drewN | apply keep_drew | apply keep_alloc | refine keep_far ?_ GW216.out _ | refine keep_far ?_ GW225.out _) | exact HK.out)⟩
     ·rw [if_neg c24] at H
      have c24b0 : (t232 == 0) = false := beq_eq_false_iff_ne.mpr c24
      have c24b1 : (t232 != 0) = true := bne_iff_ne.mpr c24
      simp only [Option.some.injEq, Prod.mk.injEq] at H
      obtain ⟨rfl, rfl, rfl, rfl⟩ := H
      go_wp2_with (first | ((with_reducible refine gate_callee (f := 79) rfl ?_); refine goesL_ (some 33) rfl rfl Try.func79 (by kernel_rfl) rfl #[.pointer (some ⟨g, 0, none⟩), .int .i64 14] rfl lmB ?_; (with_reducible refine (spec_l40Rd_pick.calls kj7 g s0_0 x1001_7 14 t232 t233 w0 _ ?side1 ?side2 A23.out).mono ?_); (case side1 => repeat (first | (with_reducible first | exact HI0.out | apply IsS121.alloc | apply IsS121.drewN | apply IsS121.drew | apply IsS121.set_1 | refine IsS121.far ?_ NB0_216.out _ | refine IsS121.far ?_ NB0_225.out _) | exact HI0.out)); (case side2 => repeat (first | (with_reducible first | exact HB.out | apply bwA | apply bwN | apply bwD | refine below_set ?_ (IsS121.ge HI0.out) | refine below_set ?_ GE216.out | refine below_set ?_ GE225.out) | exact HB.out)); rintro e w90 ⟨rfl, hi, hb, hk⟩; refine ⟨_, rfl, ?_⟩; have n0_ := Aside0.mk (Kd.R_mono (Kd.R_keep (IsS121.apart (show IsS121 w0 _ g s0_0 x1001_7 from by repeat (first | (with_reducible first | exact HI0.out | apply IsS121.alloc | apply IsS121.drewN | apply IsS121.drew | apply IsS121.set_1 | refine IsS121.far ?_ NB0_216.out _ | refine IsS121.far ?_ NB0_225.out _) | exact HI0.out)) (rvR HO_226001.out) (by decide)) hk (fun _ h => h.2)) (fun _ h => h.1)); have n1_ := Aside0.mk (KeepBut.blk hk (g' := gb216) (o := .cells #[.int .i64 0, .slice none 0 0] 48 (0, 0)) (bvK BK216.out) NB216_0.out (by simp)); have n2_ := Aside0.mk (KeepBut.blk hk (g' := gb225) (o := .cells #[.int .i64 t217, .slice Ao15 t218.length co15] 48 (0, 0)) (bvK BK225.out) NB225_0.out (by simp)); have n3_ := Aside0.mk (KeepBut.trans (by repeat (first | (with_reducible first | exact HK.out | apply KeepBut.set_ | apply keep_drewN | apply keep_drew | apply keep_alloc | refine keep_far ?_ GW216.out _ | refine keep_far ?_ GW225.out _) | exact HK.out)) hk (.inl rfl)); have n4_ := Aside0.mk (hb); have n5_ := Aside0.mk (hi); clear HO_226001; clear BK216; clear BK225; clear HK; clear HB; clear HI0; have HO_226001 := n0_; have BK216 := n1_; have BK225 := n2_; have HK := n3_; have HB := n4_; have HI0 := n5_; clear n0_ n1_ n2_ n3_ n4_ n5_; (try clear hb); (try clear hb2); (try clear hk); (try clear hi); have hnb91 := NB225_216.out; have hnc91 := NB216_225.out; have hnb92 := NB225_0.out; have hnc92 := NB0_225.out; have hcz93_0 : w90.cell? ⟨gb225, 0, none⟩ = some (.int .i64 t217) := (blk_cell BK225.out 0).trans rfl; have hcz93_1 : w90.cell? ⟨gb225, 1, none⟩ = some (.slice Ao15 t218.length co15) := (blk_cell BK225.out 1).trans rfl; have hfz93_0 := blk_frozen BK225.out 0; have hfz93_1 := blk_frozen BK225.out 1; have hnb94 := NB216_0.out; have hnc94 := NB0_216.out; have hcz95_0 : w90.cell? ⟨gb216, 0, none⟩ = some (.int .i64 0) := (blk_cell BK216.out 0).trans rfl; have hcz95_1 : w90.cell? ⟨gb216, 1, none⟩ = some (.slice none 0 0) := (blk_cell BK216.out 1).trans rfl; have hfz95_0 := blk_frozen BK216.out 0; have hfz95_1 := blk_frozen BK216.out 1))
      refine bodyPost_ret (results_ct rfl _ _ gb216 48 #[.int .i64 t217, .slice Ao15 t218.length co15] (0, 0) _ rfl (by (with_reducible repeat first | apply bkN | apply bkD | apply bkA); refine blk_put (cs := #[.int .i64 t217, .slice none 0 0]) ?_ 1 _ rfl; (with_reducible repeat first | apply bkN | apply bkD | apply bkA); refine blk_put (cs := #[.int .i64 0, .slice none 0 0]) ?_ 0 _ rfl; (with_reducible repeat first | apply bkN | apply bkD | apply bkA); exact BK216.out) Try.underlying48 rfl (by kernel_rfl)) rfl ?_
      exact ⟨_, by first | rfl | (simp [errW_none, errW_some] <;> rfl) | (simp only [← hji4]; first | rfl | (simp [errW_none, errW_some] <;> rfl)) | (simp [*, errW_none, errW_some] <;> rfl), by (with_reducible repeat first | apply rvA | apply rvN | apply rvD); exact Kd.R_mono (Kd.R_far (p := ⟨gb216, 1, none⟩) (Kd.R_far (p := ⟨gb216, 0, none⟩) (Kd.R_types HO_226001.out BK216.out (by decide)) (fun _ hk => hk.2) (.int .i64 t217)) (fun _ hk => hk.2) (.slice Ao15 t218.length co15)) (fun _ hk => trivial), by repeat (first | (with_reducible first | exact HI0.out | apply IsS121.alloc | apply IsS121.drewN | apply IsS121.drew | apply IsS121.set_1 | refine IsS121.far ?_ NB0_216.out _ | refine IsS121.far ?_ NB0_225.out _) | exact HI0.out), by repeat (first | (with_reducible first | exact HB.out | apply bwA | apply bwN | apply bwD | refine below_set ?_ (IsS121.ge HI0.out) | refine below_set ?_ GE216.out | refine below_set ?_ GE225.out) | exact HB.out), by repeat (first | (with_reducible first | exact HK.out | apply KeepBut.set_ | apply keep_drewN | apply keep_drew | apply keep_alloc | refine keep_far ?_ GW216.out _ | refine keep_far ?_ GW225.out _) | exact HK.out)⟩
  ·rw [if_neg c6] at H
   exact absurd H (by simp)
 ·rw [if_neg c5] at H
  exact absurd H (by simp)

end Go.Proofs.Ytpcckoljocpchaa.QFnCompacted
