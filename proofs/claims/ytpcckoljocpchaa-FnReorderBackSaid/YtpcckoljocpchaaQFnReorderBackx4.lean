-- Written by a program of this session (mk.py). Lean checks it.
import Derived.Test.YtpcckoljocpchaaQFnReorderBackx0
import Derived.Test.YtpcckoljocpchaaQFnReorderBackx2
import Derived.Test.YtpcckoljocpchaaQFnReorderBackx3
namespace Go.Proofs.Ytpcckoljocpchaa.QFnReorderBack
open Go.RowKit Go.Proofs.YtpcckoljocpchaaW.PrintWords Go.Proofs.YtpcckoljocpchaaW.PrintLast Go.Proofs.YtpcckoljocpchaaW.PrintMore
attribute [local go_sem] max2_int min2_int max_two min_two max_three min_three max_four min_four   -- for this text's walks alone
set_option linter.unusedVariables false
set_option linter.unusedSimpArgs false

/-! ### spec_l8Any: function 83 -/
mutual
def spec_l8Any.j0 : Nat → Int → List Int → Int → Int → List (S56) → Option (Int × (List (S56)) × Int × Int)
 | 0, _, _, _, _, _ => none
 | k + 1, x8, x1000, x1001, x159000, x159001 => (spec_l40Rd_pick.f k x1000 x1001 14).bind fun bt165 => (if bt165.1 = 0 then ((spec_l40Rd_pick.f k x1000 bt165.2 4).bind fun bt167 => (if bt167.1 = 0 then ((spec_l40Rd_num.f k x1000 bt167.2 (([(-1), 13, 0] : List Int))).bind fun bt172 => (some (bt172.1, x159001, x8, bt172.2))) else (if bt167.1 = 1 then (spec_l8Any.j1 k x8 bt167.1 (decide ((x159001.length : Int) > 0)) x1000 bt167.2 x159000 x159001) else (spec_l8Any.j1 k x8 bt167.1 false x1000 bt167.2 x159000 x159001)))) else (some (x159000, x159001, x8, bt165.2)))
def spec_l8Any.j1 : Nat → Int → Int → Bool → List Int → Int → Int → List (S56) → Option (Int × (List (S56)) × Int × Int)
 | 0, _, _, _, _, _, _, _ => none
 | k + 1, x8, x9, x50, x1000, x1001, x159000, x159001 => if x50 = true then (if 0 < (x159001.length : Int) then (if x159001.length < 5864062014805 then (some (x159000, (x159001 ++ [(⟨(rd_T56 x159001 0).f0, (rd_T56 x159001 0).f1, (rd_T56 x159001 0).f2⟩ : S56)]), x8, x1001)) else (none)) else (none)) else (if x9 = 2 then (spec_l8Any.j2 k x8 (decide ((x159001.length : Int) > 0)) x1000 x1001 x159000 x159001) else (spec_l8Any.j2 k x8 false x1000 x1001 x159000 x159001))
def spec_l8Any.j2 : Nat → Int → Bool → List Int → Int → Int → List (S56) → Option (Int × (List (S56)) × Int × Int)
 | 0, _, _, _, _, _, _ => none
 | k + 1, x8, x67, x1000, x1001, x159000, x159001 => if x67 = true then (if 0 < (x159001.length : Int) then ((spec_l40Rd_num.f k x1000 x1001 (([1, 2, (-1)] : List Int))).bind fun bt182 => (some (x159000, (x159001.set (0 : Int).toNat (⟨(rd_T56 x159001 0).f0, bt182.1, 1⟩ : S56)), x8, bt182.2))) else (none)) else ((spec_l40Rd_num.f k x1000 x1001 (([wrap64 ((x159001.length : Int) + 2), (-1)] : List Int))).bind fun bt188 => (some (x159000, x159001, bt188.1, bt188.2)))
end
def spec_l8Any.f (k : Nat) (s0_0 : List Int) (s0_1 : Int) (a1 : Int) : Option (Int × (List (S56)) × Int × Int) := (spec_l8Draw.f k s0_0 s0_1 a1).bind fun bt150 => (if 0 ≤ (wrap64 ((bt150.2.2.1.length : Int) - 1)) then (if (wrap64 ((bt150.2.2.1.length : Int) - 1)) < (bt150.2.2.1.length : Int) then ((spec_l40Rd_pick.f k s0_0 bt150.2.2.2 4).bind fun bt160 => (if bt160.1 = 0 then ((spec_l40Rd_pick.f k s0_0 bt160.2 (bt150.2.2.1.length : Int)).bind fun bt162 => (if 0 ≤ bt162.1 then (if bt162.1 < (bt150.2.2.1.length : Int) then (spec_l8Any.j0 k (rd bt150.2.2.1 bt162.1) s0_0 bt162.2 bt150.1 bt150.2.1) else (none)) else (none))) else (spec_l8Any.j0 k (rd bt150.2.2.1 (wrap64 ((bt150.2.2.1.length : Int) - 1))) s0_0 bt160.2 bt150.1 bt150.2.1))) else (none)) else (none))
theorem spec_l8Any.mono_l : ∀ k, (∀ y0 y1 y2 y3 y4, LeO (spec_l8Any.j0 k y0 y1 y2 y3 y4) (spec_l8Any.j0 (k + 1) y0 y1 y2 y3 y4)) ∧ (∀ y0 y1 y2 y3 y4 y5 y6, LeO (spec_l8Any.j1 k y0 y1 y2 y3 y4 y5 y6) (spec_l8Any.j1 (k + 1) y0 y1 y2 y3 y4 y5 y6)) ∧ (∀ y0 y1 y2 y3 y4 y5, LeO (spec_l8Any.j2 k y0 y1 y2 y3 y4 y5) (spec_l8Any.j2 (k + 1) y0 y1 y2 y3 y4 y5))
 | 0 => ⟨fun _ _ _ _ _ r h => by simp [spec_l8Any.j0] at h, fun _ _ _ _ _ _ _ r h => by simp [spec_l8Any.j1] at h, fun _ _ _ _ _ _ r h => by simp [spec_l8Any.j2] at h⟩
 | k + 1 => by
  obtain ⟨ih0, ih1, ih2⟩ := spec_l8Any.mono_l k
  refine ⟨?_, ?_, ?_⟩
  ·intro y0 y1 y2 y3 y4
   unfold spec_l8Any.j0
   repeat' first
   | (with_reducible exact ih0 _ _ _ _ _)
   | (with_reducible exact ih1 _ _ _ _ _ _ _)
   | (with_reducible exact ih2 _ _ _ _ _ _)
   | (with_reducible exact spec_l40Rd_num.mono _ _ _ _)
   | (with_reducible exact spec_l40Rd_pick.mono _ _ _ _)
   | (with_reducible exact spec_l8Draw.mono _ _ _ _)
   | (with_reducible exact LeO.refl _)
   | (with_reducible exact LeO.none _)
   | (with_reducible refine LeO.ite ?_ ?_)
   | (with_reducible refine LeO.bind ?_ (fun _ => ?_))
  ·intro y0 y1 y2 y3 y4 y5 y6
   unfold spec_l8Any.j1
   repeat' first
   | (with_reducible exact ih0 _ _ _ _ _)
   | (with_reducible exact ih1 _ _ _ _ _ _ _)
   | (with_reducible exact ih2 _ _ _ _ _ _)
   | (with_reducible exact spec_l40Rd_num.mono _ _ _ _)
   | (with_reducible exact spec_l40Rd_pick.mono _ _ _ _)
   | (with_reducible exact spec_l8Draw.mono _ _ _ _)
   | (with_reducible exact LeO.refl _)
   | (with_reducible exact LeO.none _)
   | (with_reducible refine LeO.ite ?_ ?_)
   | (with_reducible refine LeO.bind ?_ (fun _ => ?_))
  ·intro y0 y1 y2 y3 y4 y5
   unfold spec_l8Any.j2
   repeat' first
   | (with_reducible exact ih0 _ _ _ _ _)
   | (with_reducible exact ih1 _ _ _ _ _ _ _)
   | (with_reducible exact ih2 _ _ _ _ _ _)
   | (with_reducible exact spec_l40Rd_num.mono _ _ _ _)
   | (with_reducible exact spec_l40Rd_pick.mono _ _ _ _)
   | (with_reducible exact spec_l8Draw.mono _ _ _ _)
   | (with_reducible exact LeO.refl _)
   | (with_reducible exact LeO.none _)
   | (with_reducible refine LeO.ite ?_ ?_)
   | (with_reducible refine LeO.bind ?_ (fun _ => ?_))
theorem spec_l8Any.mono : ∀ a0 a1 a2 k, LeO (spec_l8Any.f k a0 a1 a2) (spec_l8Any.f (k + 1) a0 a1 a2) := by
 intro a0 a1 a2 k
 obtain ⟨ih0, ih1, ih2⟩ := spec_l8Any.mono_l k
 unfold spec_l8Any.f
 repeat' first
   | (with_reducible exact ih0 _ _ _ _ _)
   | (with_reducible exact ih1 _ _ _ _ _ _ _)
   | (with_reducible exact ih2 _ _ _ _ _ _)
   | (with_reducible exact spec_l40Rd_num.mono _ _ _ _)
   | (with_reducible exact spec_l40Rd_pick.mono _ _ _ _)
   | (with_reducible exact spec_l8Draw.mono _ _ _ _)
   | (with_reducible exact LeO.refl _)
   | (with_reducible exact LeO.none _)
   | (with_reducible refine LeO.ite ?_ ?_)
   | (with_reducible refine LeO.bind ?_ (fun _ => ?_))
def spec_l8Any.T10 : Bool × List (List Nat × List Nat) := (true, [([], []), ([0], [0]), ([], []), ([2], [2]), ([3], [3]), ([4], [4]), ([5], [5]), ([1, 6], [1, 6]), ([0, 1, 2, 3, 4, 5, 6, 7], []), ([8, 7, 7, 0, 1, 2, 3, 4, 5, 6, 7], [7, 8])])
def spec_l8Any.B10 : List Nat := [0, 1, 0, 4, 12, 28, 60, 127, 255, 511]
theorem spec_l8Any.tab10 : rtab .any (opsOf Try.f83 10) = spec_l8Any.T10 := by kernel_rfl
theorem spec_l8Any.bits10 : waitsOk spec_l8Any.T10.2 spec_l8Any.B10 = true := by kernel_rfl
def spec_l8Any.T12 : Bool × List (List Nat × List Nat) := (true, [([], []), ([0], [0]), ([], []), ([2], [2]), ([3], [3]), ([4], [4]), ([5], [5]), ([], []), ([], []), ([7, 8], [7, 8]), ([6, 9], [6, 9]), ([1, 0, 1, 2, 3, 4, 5, 6, 7, 8, 9, 10], [1]), ([11, 10, 9, 0, 1, 2, 3, 4, 5, 6, 7, 8, 9, 10], [10, 11])])
def spec_l8Any.B12 : List Nat := [0, 1, 0, 4, 12, 28, 60, 0, 0, 384, 1020, 2047, 4095]
theorem spec_l8Any.tab12 : rtab .any (opsOf Try.f83 12) = spec_l8Any.T12 := by kernel_rfl
theorem spec_l8Any.bits12 : waitsOk spec_l8Any.T12.2 spec_l8Any.B12 = true := by kernel_rfl
set_option maxHeartbeats 8000000 in
set_option maxRecDepth 100000 in
theorem spec_l8Any.calls (k : Nat) (g : Nat) (s0_0 : List Int) (s0_1 : Int) (a1 : Int) (r1 : Int) (r2 : List (S56)) (r3 : Int) (r4 : Int) (w0 w : World) (hI : IsS121 w0 w g s0_0 s0_1) (hB : Below w0.heap.size w0 w) (h : spec_l8Any.f k s0_0 s0_1 a1 = some (r1, r2, r3, r4)) :
  Calls Try.prog 83 #[.pointer (some ⟨g, 0, none⟩), .int .i64 a1] w fun e w' => ∃ v1_ : Value, e = .returned (.tuple #[.agg #[.int .i64 r1, v1_], .int .i64 r3]) ∧ Kd.R k56 56 w' w.heap.size (fun _ => True) v1_ r2 ∧ IsS121 w0 w' g s0_0 r4 ∧ Below w0.heap.size w0 w' ∧ KeepBut w w' g none := by
 have hu48 := Try.underlying48
 have hu56 := Try.underlying56
 have HI0 := Aside0.mk hI
 have HK := Aside0.mk (KeepBut.refl w g none)
 have HL := Aside0.mk hB.size
 clear hI
 have HW0 := Aside0.mk hB.size
 have HB := Aside0.mk hB
 clear hB
 have H : ((spec_l8Draw.f k s0_0 s0_1 a1).bind fun bt150 => (if 0 ≤ (wrap64 ((bt150.2.2.1.length : Int) - 1)) then (if (wrap64 ((bt150.2.2.1.length : Int) - 1)) < (bt150.2.2.1.length : Int) then ((spec_l40Rd_pick.f k s0_0 bt150.2.2.2 4).bind fun bt160 => (if bt160.1 = 0 then ((spec_l40Rd_pick.f k s0_0 bt160.2 (bt150.2.2.1.length : Int)).bind fun bt162 => (if 0 ≤ bt162.1 then (if bt162.1 < (bt150.2.2.1.length : Int) then (spec_l8Any.j0 k (rd bt150.2.2.1 bt162.1) s0_0 bt162.2 bt150.1 bt150.2.1) else (none)) else (none))) else (spec_l8Any.j0 k (rd bt150.2.2.1 (wrap64 ((bt150.2.2.1.length : Int) - 1))) s0_0 bt160.2 bt150.1 bt150.2.1))) else (none)) else (none))) = some (r1, r2, r3, r4) := h
 clear h
 replace H := Option.bind_eq_some_iff.mp H
 obtain ⟨⟨t150, t151, t154, t157⟩, A30, H⟩ := H
 replace H : (if 0 ≤ (wrap64 ((t154.length : Int) - 1)) then (if (wrap64 ((t154.length : Int) - 1)) < (t154.length : Int) then ((spec_l40Rd_pick.f k s0_0 t157 4).bind fun bt160 => (if bt160.1 = 0 then ((spec_l40Rd_pick.f k s0_0 bt160.2 (t154.length : Int)).bind fun bt162 => (if 0 ≤ bt162.1 then (if bt162.1 < (t154.length : Int) then (spec_l8Any.j0 k (rd t154 bt162.1) s0_0 bt162.2 t150 t151) else (none)) else (none))) else (spec_l8Any.j0 k (rd t154 (wrap64 ((t154.length : Int) - 1))) s0_0 bt160.2 t150 t151))) else (none)) else (none)) = some (r1, r2, r3, r4) := H
 have A3 := Aside0.mk A30
 clear A30
 obtain ⟨ji4, hji4⟩ : ∃ j_ : Int, (wrap64 ((t154.length : Int) - 1)) = j_ := ⟨_, rfl⟩
 replace H : (if 0 ≤ (ji4) then (if (ji4) < (t154.length : Int) then ((spec_l40Rd_pick.f k s0_0 t157 4).bind fun bt160 => (if bt160.1 = 0 then ((spec_l40Rd_pick.f k s0_0 bt160.2 (t154.length : Int)).bind fun bt162 => (if 0 ≤ bt162.1 then (if bt162.1 < (t154.length : Int) then (spec_l8Any.j0 k (rd t154 bt162.1) s0_0 bt162.2 t150 t151) else (none)) else (none))) else (spec_l8Any.j0 k (rd t154 (ji4)) s0_0 bt160.2 t150 t151))) else (none)) else (none)) = some (r1, r2, r3, r4) := by first | (rw [hji4] at H; exact H) | (simp only [hji4] at H ⊢; exact H)
 (try rw [hji4] at A3)
 have hji4w : (IntKind.i64.wrap ((t154.length : Int) - 1)) = ji4 := (i64_w _).trans hji4
 by_cases c5 : 0 ≤ (ji4)
 ·rw [if_pos c5] at H
  have c5b0 : decide (0 ≤ (ji4)) = true := decide_eq_true c5
  clear c5
  by_cases c6 : (ji4) < (t154.length : Int)
  ·rw [if_pos c6] at H
   have c6b0 : decide ((ji4) < (t154.length : Int)) = true := decide_eq_true c6
   clear c6
   replace H := Option.bind_eq_some_iff.mp H
   obtain ⟨⟨t160, t161⟩, A70, H⟩ := H
   replace H : (if t160 = 0 then ((spec_l40Rd_pick.f k s0_0 t161 (t154.length : Int)).bind fun bt162 => (if 0 ≤ bt162.1 then (if bt162.1 < (t154.length : Int) then (spec_l8Any.j0 k (rd t154 bt162.1) s0_0 bt162.2 t150 t151) else (none)) else (none))) else (spec_l8Any.j0 k (rd t154 (ji4)) s0_0 t161 t150 t151)) = some (r1, r2, r3, r4) := H
   have A7 := Aside0.mk A70
   clear A70
   have HC8 := Aside0.mk H
   clear H
   go_enter Try.func83, Try.ntmps83
   go_upto_if 24 with (first | ((with_reducible refine gate_dst (N := 4) rfl ?_); (try (refine gate_guard (by rfl) ?_; dsimp only)); refine box_event ?hg (N := 4) ?hd (cs := #[.int .i64 0, .slice none 0 0]) (t := 48) ?hr ?_; (case hd => rfl); (case hg => rfl); (case hr => first | (go_simp; done) | (go_simp; rfl)); intro gb149 hg w9 hbox hb; have n0_ := Aside0.mk (IsS121.below (by repeat (first | (with_reducible first | exact HI0.out | apply IsS121.alloc | apply IsS121.drewN | apply IsS121.drew | apply IsS121.set_1) | exact HI0.out)) hb); have n1_ := Aside0.mk (KeepBut.trans (by repeat (first | (with_reducible first | exact HK.out | apply KeepBut.set_ | apply keep_drewN | apply keep_drew | apply keep_alloc) | exact HK.out)) (KeepBut.of_below hb g none) (.inl rfl)); have n2_ := Aside0.mk (below_step (by repeat (first | (with_reducible first | exact HB.out | apply bwA | apply bwN | apply bwD | refine below_set ?_ (IsS121.ge HI0.out)) | exact HB.out)) hb); have n3_ := Aside0.mk (hbox); have n4_ := Aside0.mk ((by rw [hg]; exact (keep_size (w := w) (g := g) (row := none) (by repeat (first | (with_reducible first | exact HK.out | apply KeepBut.set_ | apply keep_drewN | apply keep_drew | apply keep_alloc) | exact HK.out))) : w.heap.size ≤ gb149)); have n5_ := Aside0.mk ((Nat.le_trans HW0.out (by rw [hg]; exact (keep_size (w := w) (g := g) (row := none) (by repeat (first | (with_reducible first | exact HK.out | apply KeepBut.set_ | apply keep_drewN | apply keep_drew | apply keep_alloc) | exact HK.out))) : w.heap.size ≤ gb149) : w0.heap.size ≤ gb149)); have n6_ := Aside0.mk ((by rw [hg]; exact Nat.ne_of_lt (IsS121.lt (show IsS121 w0 _ g s0_0 s0_1 from by repeat (first | (with_reducible first | exact HI0.out | apply IsS121.alloc | apply IsS121.drewN | apply IsS121.drew | apply IsS121.set_1) | exact HI0.out))) : g ≠ gb149)); have n7_ := Aside0.mk ((by rw [hg]; exact Nat.ne_of_gt (IsS121.lt (show IsS121 w0 _ g s0_0 s0_1 from by repeat (first | (with_reducible first | exact HI0.out | apply IsS121.alloc | apply IsS121.drewN | apply IsS121.drew | apply IsS121.set_1) | exact HI0.out))) : gb149 ≠ g)); clear HI0; clear HK; clear HB; have HI0 := n0_; have HK := n1_; have HB := n2_; have BK149 := n3_; have GW149 := n4_; have GE149 := n5_; have NB0_149 := n6_; have NB149_0 := n7_; clear n0_ n1_ n2_ n3_ n4_ n5_ n6_ n7_; clear hb hbox hg) | ((with_reducible refine gate_callee (f := 116) rfl ?_); refine goesL_ (some 13) rfl rfl Try.func116 (by kernel_rfl) rfl #[.pointer (some ⟨g, 0, none⟩), .int .i64 a1] rfl lmB ?_; (with_reducible refine (spec_l8Draw.calls k g s0_0 s0_1 a1 t150 t151 t154 t157 w0 _ ?side1 ?side2 A3.out).mono ?_); (case side1 => repeat (first | (with_reducible first | exact HI0.out | apply IsS121.alloc | apply IsS121.drewN | apply IsS121.drew | apply IsS121.set_1 | refine IsS121.far ?_ NB0_149.out _) | exact HI0.out)); (case side2 => repeat (first | (with_reducible first | exact HB.out | apply bwA | apply bwN | apply bwD | refine below_set ?_ (IsS121.ge HI0.out) | refine below_set ?_ GE149.out) | exact HB.out)); rintro e w10 ⟨v152, v155, rfl, ho0, ho1, hi, hb, hk⟩; refine ⟨_, rfl, ?_⟩; have n0_ := Aside0.mk (KeepBut.blk hk (g' := gb149) (o := .cells #[.int .i64 0, .slice none 0 0] 48 (0, 0)) (bvK BK149.out) NB149_0.out (by simp)); have n1_ := Aside0.mk (Kd.R_lower ho0 (keep_size (w := w) (g := g) (row := none) (by repeat (first | (with_reducible first | exact HK.out | apply KeepBut.set_ | apply keep_drewN | apply keep_drew | apply keep_alloc | refine keep_far ?_ GW149.out _) | exact HK.out)))); have n2_ := Aside0.mk (Kd.R_lower ho1 (keep_size (w := w) (g := g) (row := none) (by repeat (first | (with_reducible first | exact HK.out | apply KeepBut.set_ | apply keep_drewN | apply keep_drew | apply keep_alloc | refine keep_far ?_ GW149.out _) | exact HK.out)))); have n3_ := Aside0.mk (KeepBut.trans (by repeat (first | (with_reducible first | exact HK.out | apply KeepBut.set_ | apply keep_drewN | apply keep_drew | apply keep_alloc | refine keep_far ?_ GW149.out _) | exact HK.out)) hk (.inl rfl)); have n4_ := Aside0.mk (hb); have n5_ := Aside0.mk (hi); clear BK149; clear HK; clear HB; clear HI0; have BK149 := n0_; have HO153 := n1_; have HO156 := n2_; have HK := n3_; have HB := n4_; have HI0 := n5_; clear n0_ n1_ n2_ n3_ n4_ n5_; (try clear hb); (try clear hb2); (try clear hk); (try clear hi); (try clear ho0); (try clear ho1)) | ((with_reducible refine gate_dst (N := 6) rfl ?_); (try (refine gate_guard (by rfl) ?_; dsimp only)); refine box_event ?hg (N := 6) ?hd (cs := #[.int .i64 0, .slice none 0 0]) (t := 48) ?hr ?_; (case hd => rfl); (case hg => rfl); (case hr => first | (go_simp; done) | (go_simp; rfl)); intro gb158 hg w11 hbox hb; have n0_ := Aside0.mk (Kd.R_below (rvR HO153.out) hb); have n1_ := Aside0.mk (Kd.R_below (rvR HO156.out) hb); have n2_ := Aside0.mk (IsS121.below (by repeat (first | (with_reducible first | exact HI0.out | apply IsS121.alloc | apply IsS121.drewN | apply IsS121.drew | apply IsS121.set_1 | refine IsS121.far ?_ NB0_149.out _) | exact HI0.out)) hb); have n3_ := Aside0.mk (blk_below (g := gb149) (o := .cells #[.int .i64 0, .slice none 0 0] 48 (0, 0)) (bvK BK149.out) hb); have n4_ := Aside0.mk (KeepBut.trans (by repeat (first | (with_reducible first | exact HK.out | apply KeepBut.set_ | apply keep_drewN | apply keep_drew | apply keep_alloc | refine keep_far ?_ GW149.out _) | exact HK.out)) (KeepBut.of_below hb g none) (.inl rfl)); have n5_ := Aside0.mk (below_step (by repeat (first | (with_reducible first | exact HB.out | apply bwA | apply bwN | apply bwD | refine below_set ?_ (IsS121.ge HI0.out) | refine below_set ?_ GE149.out) | exact HB.out)) hb); have n6_ := Aside0.mk (hbox); have n7_ := Aside0.mk ((by rw [hg]; exact (keep_size (w := w) (g := g) (row := none) (by repeat (first | (with_reducible first | exact HK.out | apply KeepBut.set_ | apply keep_drewN | apply keep_drew | apply keep_alloc | refine keep_far ?_ GW149.out _) | exact HK.out))) : w.heap.size ≤ gb158)); have n8_ := Aside0.mk ((Nat.le_trans HW0.out (by rw [hg]; exact (keep_size (w := w) (g := g) (row := none) (by repeat (first | (with_reducible first | exact HK.out | apply KeepBut.set_ | apply keep_drewN | apply keep_drew | apply keep_alloc | refine keep_far ?_ GW149.out _) | exact HK.out))) : w.heap.size ≤ gb158) : w0.heap.size ≤ gb158)); have n9_ := Aside0.mk ((by rw [hg]; exact Nat.ne_of_lt (blk_lt (g := gb149) (o := .cells #[.int .i64 0, .slice none 0 0] 48 (0, 0)) (bvK BK149.out)) : gb149 ≠ gb158)); have n10_ := Aside0.mk ((by rw [hg]; exact Nat.ne_of_gt (blk_lt (g := gb149) (o := .cells #[.int .i64 0, .slice none 0 0] 48 (0, 0)) (bvK BK149.out)) : gb158 ≠ gb149)); have n11_ := Aside0.mk ((by rw [hg]; exact Nat.ne_of_lt (IsS121.lt (show IsS121 w0 _ g s0_0 t157 from by repeat (first | (with_reducible first | exact HI0.out | apply IsS121.alloc | apply IsS121.drewN | apply IsS121.drew | apply IsS121.set_1 | refine IsS121.far ?_ NB0_149.out _) | exact HI0.out))) : g ≠ gb158)); have n12_ := Aside0.mk ((by rw [hg]; exact Nat.ne_of_gt (IsS121.lt (show IsS121 w0 _ g s0_0 t157 from by repeat (first | (with_reducible first | exact HI0.out | apply IsS121.alloc | apply IsS121.drewN | apply IsS121.drew | apply IsS121.set_1 | refine IsS121.far ?_ NB0_149.out _) | exact HI0.out))) : gb158 ≠ g)); clear HO153; clear HO156; clear HI0; clear BK149; clear HK; clear HB; have HO153 := n0_; have HO156 := n1_; have HI0 := n2_; have BK149 := n3_; have HK := n4_; have HB := n5_; have BK158 := n6_; have GW158 := n7_; have GE158 := n8_; have NB149_158 := n9_; have NB158_149 := n10_; have NB0_158 := n11_; have NB158_0 := n12_; clear n0_ n1_ n2_ n3_ n4_ n5_ n6_ n7_ n8_ n9_ n10_ n11_ n12_; clear hb hbox hg; have hnb12 := NB158_149.out; have hnc12 := NB149_158.out; have hnb13 := NB158_0.out; have hnc13 := NB0_158.out; have hcz14_0 : w11.cell? ⟨gb158, 0, none⟩ = some (.int .i64 0) := (blk_cell BK158.out 0).trans rfl; have hcz14_1 : w11.cell? ⟨gb158, 1, none⟩ = some (.slice none 0 0) := (blk_cell BK158.out 1).trans rfl; have hfz14_0 := blk_frozen BK158.out 0; have hfz14_1 := blk_frozen BK158.out 1; obtain ⟨Ao15, co15, eo15⟩ := Kd.R_slice HO153.out; subst eo15; obtain ⟨Ao16, co16, eo16⟩ := Kd.R_slice HO156.out; subst eo16; have p159 : 0 ≤ ((ji4) : Int) := oda; have q159 : (ji4) < (t154.length : Int) := oda; obtain ⟨ad159, e159, hx159_0⟩ := Kd.at_int (Kd.R_reads' HO156.out).2.2 (ji4) p159 q159; cases e159; have hn159_0 : ad159.block ≠ gb158 := Kd.own_blk (Kd.R_ne HO156.out BK158.out (by decide)); have hn159_1 : ad159.block ≠ gb158 := Kd.own_blk (Kd.R_ne HO156.out BK158.out (by decide)); replace hx159_0 := (cell_far (p := ⟨gb158, 0, none⟩) (fnb hn159_0) (.int .i64 t150)).trans hx159_0; replace hx159_0 := (cell_far (p := ⟨gb158, 1, none⟩) (fnb hn159_1) (.slice Ao15 t151.length co15)).trans hx159_0; clear hn159_0; clear hn159_1; replace p159 := eq_true p159; replace q159 := eq_true q159) | ((with_reducible refine gate_callee (f := 79) rfl ?_); refine goesL_ (some 23) rfl rfl Try.func79 (by kernel_rfl) rfl #[.pointer (some ⟨g, 0, none⟩), .int .i64 4] rfl lmB ?_; (with_reducible refine (spec_l40Rd_pick.calls k g s0_0 t157 4 t160 t161 w0 _ ?side1 ?side2 A7.out).mono ?_); (case side1 => repeat (first | (with_reducible first | exact HI0.out | apply IsS121.alloc | apply IsS121.drewN | apply IsS121.drew | apply IsS121.set_1 | refine IsS121.far ?_ NB0_149.out _ | refine IsS121.far ?_ NB0_158.out _) | exact HI0.out)); (case side2 => repeat (first | (with_reducible first | exact HB.out | apply bwA | apply bwN | apply bwD | refine below_set ?_ (IsS121.ge HI0.out) | refine below_set ?_ GE149.out | refine below_set ?_ GE158.out) | exact HB.out)); rintro e w17 ⟨rfl, hi, hb, hk⟩; refine ⟨_, rfl, ?_⟩; have n0_ := Aside0.mk (KeepBut.blk hk (g' := gb149) (o := .cells #[.int .i64 0, .slice none 0 0] 48 (0, 0)) (by (with_reducible repeat first | apply bkN | apply bkD | apply bkA); refine blk_far ?_ NB149_158.out _; (with_reducible repeat first | apply bkN | apply bkD | apply bkA); refine blk_far ?_ NB149_158.out _; (with_reducible repeat first | apply bkN | apply bkD | apply bkA); exact BK149.out) NB149_0.out (by simp)); have n1_ := Aside0.mk (Kd.R_mono (Kd.R_keep (IsS121.apart (show IsS121 w0 _ g s0_0 t157 from by repeat (first | (with_reducible first | exact HI0.out | apply IsS121.alloc | apply IsS121.drewN | apply IsS121.drew | apply IsS121.set_1 | refine IsS121.far ?_ NB0_149.out _ | refine IsS121.far ?_ NB0_158.out _) | exact HI0.out)) (by (with_reducible repeat first | apply rvA | apply rvN | apply rvD); exact (Kd.R_mono (Kd.R_far (p := ⟨gb158, 1, none⟩) (Kd.R_far (p := ⟨gb158, 0, none⟩) (Kd.R_types HO153.out BK158.out (by decide)) (fun _ hk => hk.2) (.int .i64 t150)) (fun _ hk => hk.2) (.slice Ao15 t151.length co15)) (fun _ h_ => h_.1))) (by decide)) hk (fun _ h => h.2)) (fun _ h => h.1)); have n2_ := Aside0.mk (Kd.R_mono (Kd.R_keep (IsS121.apart (show IsS121 w0 _ g s0_0 t157 from by repeat (first | (with_reducible first | exact HI0.out | apply IsS121.alloc | apply IsS121.drewN | apply IsS121.drew | apply IsS121.set_1 | refine IsS121.far ?_ NB0_149.out _ | refine IsS121.far ?_ NB0_158.out _) | exact HI0.out)) (by (with_reducible repeat first | apply rvA | apply rvN | apply rvD); exact (Kd.R_mono (Kd.R_far (p := ⟨gb158, 1, none⟩) (Kd.R_far (p := ⟨gb158, 0, none⟩) (Kd.R_types HO156.out BK158.out (by decide)) (fun _ hk => hk.2) (.int .i64 t150)) (fun _ hk => hk.2) (.slice Ao15 t151.length co15)) (fun _ h_ => h_.1))) (by decide)) hk (fun _ h => h.2)) (fun _ h => h.1)); have n3_ := Aside0.mk (KeepBut.blk hk (g' := gb158) (o := .cells #[.int .i64 t150, .slice Ao15 t151.length co15] 48 (0, 0)) (by (with_reducible repeat first | apply bkN | apply bkD | apply bkA); refine blk_put (cs := #[.int .i64 t150, .slice none 0 0]) ?_ 1 _ rfl; (with_reducible repeat first | apply bkN | apply bkD | apply bkA); refine blk_put (cs := #[.int .i64 0, .slice none 0 0]) ?_ 0 _ rfl; (with_reducible repeat first | apply bkN | apply bkD | apply bkA); exact BK158.out) NB158_0.out (by simp)); have n4_ := Aside0.mk (KeepBut.trans (by repeat (first | (with_reducible first | exact HK.out | apply KeepBut.set_ | apply keep_drewN | apply keep_drew | apply keep_alloc | refine keep_far ?_ GW149.out _ | refine keep_far ?_ GW158.out _) | exact HK.out)) hk (.inl rfl)); have n5_ := Aside0.mk (hb); have n6_ := Aside0.mk (hi); clear BK149; clear HO153; clear HO156; clear BK158; clear HK; clear HB; clear HI0; have BK149 := n0_; have HO153 := n1_; have HO156 := n2_; have BK158 := n3_; have HK := n4_; have HB := n5_; have HI0 := n6_; clear n0_ n1_ n2_ n3_ n4_ n5_ n6_; (try clear hb); (try clear hb2); (try clear hk); (try clear hi)))
   (try simp only [Act.put, List.setIfInBounds_toArray, List.set_cons_zero, List.set_cons_succ])
   go_cut [8] (fun v8 wc => ∃ (kq : Nat) (x8_7 : Int) (x1001_7 : Int), v8 = .int .i64 x8_7 ∧ Aside0 (spec_l8Any.j0 kq x8_7 s0_0 x1001_7 t150 t151 = some (r1, r2, r3, r4)) ∧ Aside0 (kq ≤ k) ∧ Aside0 (Kd.R k56 56 wc w.heap.size (fun _ => True) (.slice Ao15 t151.length co15) t151) ∧ Aside0 (wc.heap[gb149]? = some (.cells #[.int .i64 0, (.slice none 0 0)] 48 (0, 0))) ∧ Aside0 (wc.heap[gb158]? = some (.cells #[.int .i64 t150, (.slice Ao15 t151.length co15)] 48 (0, 0))) ∧ Aside0 (IsS121 w0 wc g s0_0 x1001_7) ∧ Aside0 (KeepBut w wc g none) ∧ Aside0 (Below w0.heap.size w0 wc))
   case first =>
    have H := HC8.out
    clear HC8
    by_cases c18 : t160 = 0
    ·rw [if_pos c18] at H
     have c18b0 : (t160 == 0) = true := beq_iff_eq.mpr c18
     have c18b1 : (t160 != 0) = false := bne_eq_false_iff_eq.mpr c18
     clear c18
     (first | rw [c18b0] | (simp only [i64_w, i32_w]; rw [c18b0]) | skip)
     replace H := Option.bind_eq_some_iff.mp H
     obtain ⟨⟨t162, t163⟩, A190, H⟩ := H
     replace H : (if 0 ≤ t162 then (if t162 < (t154.length : Int) then (spec_l8Any.j0 k (rd t154 t162) s0_0 t163 t150 t151) else (none)) else (none)) = some (r1, r2, r3, r4) := H
     have A19 := Aside0.mk A190
     clear A190
     by_cases c20 : 0 ≤ t162
     ·rw [if_pos c20] at H
      have c20b0 : decide (0 ≤ t162) = true := decide_eq_true c20
      clear c20
      by_cases c21 : t162 < (t154.length : Int)
      ·rw [if_pos c21] at H
       have c21b0 : decide (t162 < (t154.length : Int)) = true := decide_eq_true c21
       clear c21
       have H' := Aside0.mk H
       clear H
       go_wp2_with (first | ((with_reducible refine gate_callee (f := 79) rfl ?_); refine goesL_ (some 29) rfl rfl Try.func79 (by kernel_rfl) rfl #[.pointer (some ⟨g, 0, none⟩), .int .i64 (t154.length : Int)] rfl lmB ?_; (with_reducible refine (spec_l40Rd_pick.calls k g s0_0 t161 (t154.length : Int) t162 t163 w0 _ ?side1 ?side2 A19.out).mono ?_); (case side1 => repeat (first | (with_reducible first | exact HI0.out | apply IsS121.alloc | apply IsS121.drewN | apply IsS121.drew | apply IsS121.set_1 | refine IsS121.far ?_ NB0_149.out _ | refine IsS121.far ?_ NB0_158.out _) | exact HI0.out)); (case side2 => repeat (first | (with_reducible first | exact HB.out | apply bwA | apply bwN | apply bwD | refine below_set ?_ (IsS121.ge HI0.out) | refine below_set ?_ GE149.out | refine below_set ?_ GE158.out) | exact HB.out)); rintro e w22 ⟨rfl, hi, hb, hk⟩; refine ⟨_, rfl, ?_⟩; have n0_ := Aside0.mk (KeepBut.blk hk (g' := gb149) (o := .cells #[.int .i64 0, .slice none 0 0] 48 (0, 0)) (bvK BK149.out) NB149_0.out (by simp)); have n1_ := Aside0.mk (Kd.R_mono (Kd.R_keep (IsS121.apart (show IsS121 w0 _ g s0_0 t161 from by repeat (first | (with_reducible first | exact HI0.out | apply IsS121.alloc | apply IsS121.drewN | apply IsS121.drew | apply IsS121.set_1 | refine IsS121.far ?_ NB0_149.out _ | refine IsS121.far ?_ NB0_158.out _) | exact HI0.out)) (rvR HO153.out) (by decide)) hk (fun _ h => h.2)) (fun _ h => h.1)); have n2_ := Aside0.mk (Kd.R_mono (Kd.R_keep (IsS121.apart (show IsS121 w0 _ g s0_0 t161 from by repeat (first | (with_reducible first | exact HI0.out | apply IsS121.alloc | apply IsS121.drewN | apply IsS121.drew | apply IsS121.set_1 | refine IsS121.far ?_ NB0_149.out _ | refine IsS121.far ?_ NB0_158.out _) | exact HI0.out)) (rvR HO156.out) (by decide)) hk (fun _ h => h.2)) (fun _ h => h.1)); have n3_ := Aside0.mk (KeepBut.blk hk (g' := gb158) (o := .cells #[.int .i64 t150, .slice Ao15 t151.length co15] 48 (0, 0)) (bvK BK158.out) NB158_0.out (by simp)); have n4_ := Aside0.mk (KeepBut.trans (by repeat (first | (with_reducible first | exact HK.out | apply KeepBut.set_ | apply keep_drewN | apply keep_drew | apply keep_alloc | refine keep_far ?_ GW149.out _ | refine keep_far ?_ GW158.out _) | exact HK.out)) hk (.inl rfl)); have n5_ := Aside0.mk (hb); have n6_ := Aside0.mk (hi); clear BK149; clear HO153; clear HO156; clear BK158; clear HK; clear HB; clear HI0; have BK149 := n0_; have HO153 := n1_; have HO156 := n2_; have BK158 := n3_; have HK := n4_; have HB := n5_; have HI0 := n6_; clear n0_ n1_ n2_ n3_ n4_ n5_ n6_; (try clear hb); (try clear hb2); (try clear hk); (try clear hi); have p164 : 0 ≤ (t162 : Int) := oda; have q164 : t162 < (t154.length : Int) := oda; obtain ⟨ad164, e164, hx164_0⟩ := Kd.at_int (Kd.R_reads' HO156.out).2.2 t162 p164 q164; obtain rfl : ad159 = ad164 := (by injection e164); replace p164 := eq_true p164; replace q164 := eq_true q164))
       go_meet
       case rel => exact ⟨_, (rd t154 t162), (t163), rsd, H', ⟨by first | omega | exact Nat.le_refl _⟩, ⟨rvR HO153.out⟩, ⟨bvK BK149.out⟩, ⟨bvK BK158.out⟩, ⟨by repeat (first | (with_reducible first | exact HI0.out | apply IsS121.alloc | apply IsS121.drewN | apply IsS121.drew | apply IsS121.set_1 | refine IsS121.far ?_ NB0_149.out _ | refine IsS121.far ?_ NB0_158.out _) | exact HI0.out)⟩, ⟨by repeat (first | (with_reducible first | exact HK.out | apply KeepBut.set_ | apply keep_drewN | apply keep_drew | apply keep_alloc | refine keep_far ?_ GW149.out _ | refine keep_far ?_ GW158.out _) | exact HK.out)⟩, ⟨by repeat (first | (with_reducible first | exact HB.out | apply bwA | apply bwN | apply bwD | refine below_set ?_ (IsS121.ge HI0.out) | refine below_set ?_ GE149.out | refine below_set ?_ GE158.out) | exact HB.out)⟩⟩
      ·rw [if_neg c21] at H
       exact absurd H (by simp)
     ·rw [if_neg c20] at H
      exact absurd H (by simp)
    ·rw [if_neg c18] at H
     have c18b0 : (t160 == 0) = false := beq_eq_false_iff_ne.mpr c18
     have c18b1 : (t160 != 0) = true := bne_iff_ne.mpr c18
     (first | rw [c18b0] | (simp only [i64_w, i32_w]; rw [c18b0]) | skip)
     have H' := Aside0.mk H
     clear H
     go_wp2
     go_meet
     case rel => exact ⟨_, (rd t154 (ji4)), (t161), (by first | rfl | (simp; done) | (simp only [← hji4] <;> (first | rfl | simp)) | (simp [*]; done)), H', ⟨by first | omega | exact Nat.le_refl _⟩, ⟨rvR HO153.out⟩, ⟨bvK BK149.out⟩, ⟨bvK BK158.out⟩, ⟨by repeat (first | (with_reducible first | exact HI0.out | apply IsS121.alloc | apply IsS121.drewN | apply IsS121.drew | apply IsS121.set_1 | refine IsS121.far ?_ NB0_149.out _ | refine IsS121.far ?_ NB0_158.out _) | exact HI0.out)⟩, ⟨by repeat (first | (with_reducible first | exact HK.out | apply KeepBut.set_ | apply keep_drewN | apply keep_drew | apply keep_alloc | refine keep_far ?_ GW149.out _ | refine keep_far ?_ GW158.out _) | exact HK.out)⟩, ⟨by repeat (first | (with_reducible first | exact HB.out | apply bwA | apply bwN | apply bwD | refine below_set ?_ (IsS121.ge HI0.out) | refine below_set ?_ GE149.out | refine below_set ?_ GE158.out) | exact HB.out)⟩⟩
   case rest =>
    clear HC8
    try clear c1
    try clear p1
    try clear q1
    try clear hx1
    try clear c2
    try clear p2
    try clear c5
    try clear c5b0
    try clear c6
    try clear c6b0
    try clear p6
    try clear c7
    try clear c8
    try clear c11
    try clear c12
    try clear c13
    try clear p15
    try clear q15
    try clear hx15
    try clear p16
    try clear q16
    try clear hx16
    try clear c18
    try clear c18b0
    try clear c18b1
    try clear c20
    try clear c20b0
    try clear c21
    try clear c21b0
    try clear hcz14_0
    try clear hcz14_1
    try clear hfz14_0
    try clear hfz14_1
    try clear hx159_0
    try clear hx164_0
    try clear p159
    try clear p164
    try clear q159
    try clear q164
    obtain ⟨kq, x8_7, x1001_7, rfl, HA, HJ7, HO_159001, BK149, BK158, HI0, HK, HB⟩ := hcut
    cases kq with
    | zero => exact absurd HA.out (by simp [spec_l8Any.j0])
    | succ kj7 =>
     have H := HA.out
     clear HA
     simp only [spec_l8Any.j0] at H
     replace H := Option.bind_eq_some_iff.mp H
     obtain ⟨⟨t165, t166⟩, A230, H⟩ := H
     replace H : (if t165 = 0 then ((spec_l40Rd_pick.f kj7 s0_0 t166 4).bind fun bt167 => (if bt167.1 = 0 then ((spec_l40Rd_num.f kj7 s0_0 bt167.2 (([(-1), 13, 0] : List Int))).bind fun bt172 => (some (bt172.1, t151, x8_7, bt172.2))) else (if bt167.1 = 1 then (spec_l8Any.j1 kj7 x8_7 bt167.1 (decide ((t151.length : Int) > 0)) s0_0 bt167.2 t150 t151) else (spec_l8Any.j1 kj7 x8_7 bt167.1 false s0_0 bt167.2 t150 t151)))) else (some (t150, t151, x8_7, t166))) = some (r1, r2, r3, r4) := H
     have A23 := Aside0.mk A230
     clear A230
     by_cases c24 : t165 = 0
     ·rw [if_pos c24] at H
      have c24b0 : (t165 == 0) = true := beq_iff_eq.mpr c24
      have c24b1 : (t165 != 0) = false := bne_eq_false_iff_eq.mpr c24
      clear c24
      replace H := Option.bind_eq_some_iff.mp H
      obtain ⟨⟨t167, t168⟩, A250, H⟩ := H
      replace H : (if t167 = 0 then ((spec_l40Rd_num.f kj7 s0_0 t168 (([(-1), 13, 0] : List Int))).bind fun bt172 => (some (bt172.1, t151, x8_7, bt172.2))) else (if t167 = 1 then (spec_l8Any.j1 kj7 x8_7 t167 (decide ((t151.length : Int) > 0)) s0_0 t168 t150 t151) else (spec_l8Any.j1 kj7 x8_7 t167 false s0_0 t168 t150 t151))) = some (r1, r2, r3, r4) := H
      have A25 := Aside0.mk A250
      clear A250
      by_cases c26 : t167 = 0
      ·rw [if_pos c26] at H
       have c26b0 : (t167 == 0) = true := beq_iff_eq.mpr c26
       have c26b1 : (t167 != 0) = false := bne_eq_false_iff_eq.mpr c26
       clear c26
       obtain ⟨y169, hy169⟩ : ∃ y_ : List Int, y_ = (([(-1), 13, 0] : List Int)) := ⟨_, rfl⟩
       replace H : ((spec_l40Rd_num.f kj7 s0_0 t168 y169).bind fun bt172 => (some (bt172.1, t151, x8_7, bt172.2))) = some (r1, r2, r3, r4) := by first | (rw [hy169]; with_reducible exact H) | (have H2_ := (Option.bind_some _ _).symm.trans H; rw [hy169]; with_reducible exact H2_) | (have H2_ := (Option.bind_some _ _).symm.trans H; with_reducible exact H2_) | with_reducible exact H | (rw [hy169]; exact H) | exact H
       have Ny169 := Aside0.mk hy169
       clear hy169
       replace H := Option.bind_eq_some_iff.mp H
       obtain ⟨⟨t172, t173⟩, A270, H⟩ := H
       replace H : (some (t172, t151, x8_7, t173)) = some (r1, r2, r3, r4) := H
       have A27 := Aside0.mk A270
       clear A270
       simp only [Option.some.injEq, Prod.mk.injEq] at H
       obtain ⟨rfl, rfl, rfl, rfl⟩ := H
       go_wp2_with (first | ((with_reducible refine gate_callee (f := 79) rfl ?_); refine goesL_ (some 33) rfl rfl Try.func79 (by kernel_rfl) rfl #[.pointer (some ⟨g, 0, none⟩), .int .i64 14] rfl lmB ?_; (with_reducible refine (spec_l40Rd_pick.calls kj7 g s0_0 x1001_7 14 t165 t166 w0 _ ?side1 ?side2 A23.out).mono ?_); (case side1 => repeat (first | (with_reducible first | exact HI0.out | apply IsS121.alloc | apply IsS121.drewN | apply IsS121.drew | apply IsS121.set_1 | refine IsS121.far ?_ NB0_149.out _ | refine IsS121.far ?_ NB0_158.out _) | exact HI0.out)); (case side2 => repeat (first | (with_reducible first | exact HB.out | apply bwA | apply bwN | apply bwD | refine below_set ?_ (IsS121.ge HI0.out) | refine below_set ?_ GE149.out | refine below_set ?_ GE158.out) | exact HB.out)); rintro e w28 ⟨rfl, hi, hb, hk⟩; refine ⟨_, rfl, ?_⟩; have n0_ := Aside0.mk (Kd.R_mono (Kd.R_keep (IsS121.apart (show IsS121 w0 _ g s0_0 x1001_7 from by repeat (first | (with_reducible first | exact HI0.out | apply IsS121.alloc | apply IsS121.drewN | apply IsS121.drew | apply IsS121.set_1 | refine IsS121.far ?_ NB0_149.out _ | refine IsS121.far ?_ NB0_158.out _) | exact HI0.out)) (rvR HO_159001.out) (by decide)) hk (fun _ h => h.2)) (fun _ h => h.1)); have n1_ := Aside0.mk (KeepBut.blk hk (g' := gb149) (o := .cells #[.int .i64 0, .slice none 0 0] 48 (0, 0)) (bvK BK149.out) NB149_0.out (by simp)); have n2_ := Aside0.mk (KeepBut.blk hk (g' := gb158) (o := .cells #[.int .i64 t150, .slice Ao15 t151.length co15] 48 (0, 0)) (bvK BK158.out) NB158_0.out (by simp)); have n3_ := Aside0.mk (KeepBut.trans (by repeat (first | (with_reducible first | exact HK.out | apply KeepBut.set_ | apply keep_drewN | apply keep_drew | apply keep_alloc | refine keep_far ?_ GW149.out _ | refine keep_far ?_ GW158.out _) | exact HK.out)) hk (.inl rfl)); have n4_ := Aside0.mk (hb); have n5_ := Aside0.mk (hi); clear HO_159001; clear BK149; clear BK158; clear HK; clear HB; clear HI0; have HO_159001 := n0_; have BK149 := n1_; have BK158 := n2_; have HK := n3_; have HB := n4_; have HI0 := n5_; clear n0_ n1_ n2_ n3_ n4_ n5_; (try clear hb); (try clear hb2); (try clear hk); (try clear hi)) | ((with_reducible refine gate_callee (f := 79) rfl ?_); refine goesL_ (some 36) rfl rfl Try.func79 (by kernel_rfl) rfl #[.pointer (some ⟨g, 0, none⟩), .int .i64 4] rfl lmB ?_; (with_reducible refine (spec_l40Rd_pick.calls kj7 g s0_0 t166 4 t167 t168 w0 _ ?side1 ?side2 A25.out).mono ?_); (case side1 => repeat (first | (with_reducible first | exact HI0.out | apply IsS121.alloc | apply IsS121.drewN | apply IsS121.drew | apply IsS121.set_1 | refine IsS121.far ?_ NB0_149.out _ | refine IsS121.far ?_ NB0_158.out _) | exact HI0.out)); (case side2 => repeat (first | (with_reducible first | exact HB.out | apply bwA | apply bwN | apply bwD | refine below_set ?_ (IsS121.ge HI0.out) | refine below_set ?_ GE149.out | refine below_set ?_ GE158.out) | exact HB.out)); rintro e w29 ⟨rfl, hi, hb, hk⟩; refine ⟨_, rfl, ?_⟩; have n0_ := Aside0.mk (Kd.R_mono (Kd.R_keep (IsS121.apart (show IsS121 w0 _ g s0_0 t166 from by repeat (first | (with_reducible first | exact HI0.out | apply IsS121.alloc | apply IsS121.drewN | apply IsS121.drew | apply IsS121.set_1 | refine IsS121.far ?_ NB0_149.out _ | refine IsS121.far ?_ NB0_158.out _) | exact HI0.out)) (rvR HO_159001.out) (by decide)) hk (fun _ h => h.2)) (fun _ h => h.1)); have n1_ := Aside0.mk (KeepBut.blk hk (g' := gb149) (o := .cells #[.int .i64 0, .slice none 0 0] 48 (0, 0)) (bvK BK149.out) NB149_0.out (by simp)); have n2_ := Aside0.mk (KeepBut.blk hk (g' := gb158) (o := .cells #[.int .i64 t150, .slice Ao15 t151.length co15] 48 (0, 0)) (bvK BK158.out) NB158_0.out (by simp)); have n3_ := Aside0.mk (KeepBut.trans (by repeat (first | (with_reducible first | exact HK.out | apply KeepBut.set_ | apply keep_drewN | apply keep_drew | apply keep_alloc | refine keep_far ?_ GW149.out _ | refine keep_far ?_ GW158.out _) | exact HK.out)) hk (.inl rfl)); have n4_ := Aside0.mk (hb); have n5_ := Aside0.mk (hi); clear HO_159001; clear BK149; clear BK158; clear HK; clear HB; clear HI0; have HO_159001 := n0_; have BK149 := n1_; have BK158 := n2_; have HK := n3_; have HB := n4_; have HI0 := n5_; clear n0_ n1_ n2_ n3_ n4_ n5_; (try clear hb); (try clear hb2); (try clear hk); (try clear hi)) | ((with_reducible refine gate_dst (N := 40) rfl ?_); (try (refine gate_guard (by rfl) ?_; dsimp only)); refine Kd.R_lit (Kd.int .i64) _ 3 ?hg (N := 40) ?hd (xs := ([(-1), 13, 0] : List Int)) (inner := [.int .i64 (-1), .int .i64 13, .int .i64 0]) (ok := fun _ => True) (okp := fun _ => True) ?hr ?hp (fun _ hk => hk) trivial (Below.refl _ _) (Nat.le_refl _) (by simp) ?_; (case hd => rfl); (case hg => rfl); (case hr => first | (go_simp; done) | (go_simp; rfl)); (case hp => exact (Reps.one (show Kd.M (Kd.int .i64) _ _ _ (-1) [.int .i64 (-1)] from rfl) (Reps.one (show Kd.M (Kd.int .i64) _ _ _ 13 [.int .i64 13] from rfl) (Reps.one (show Kd.M (Kd.int .i64) _ _ _ 0 [.int .i64 0] from rfl) (Reps.none _ _))))); intro v170 w30 ho31 hb hg_ hnew_; clear hg_ hnew_; (first | rw [← Ny169.out] at ho31 | (simp only [Int.reduceToNat] at ho31; rw [← Ny169.out] at ho31)); have n0_ := Aside0.mk (Kd.R_below (rvR HO_159001.out) hb); have n1_ := Aside0.mk (Kd.R_lower ho31 (keep_size (w := w) (g := g) (row := none) (by repeat (first | (with_reducible first | exact HK.out | apply KeepBut.set_ | apply keep_drewN | apply keep_drew | apply keep_alloc | refine keep_far ?_ GW149.out _ | refine keep_far ?_ GW158.out _) | exact HK.out)))); have n2_ := Aside0.mk (blk_below (g := gb149) (o := .cells #[.int .i64 0, .slice none 0 0] 48 (0, 0)) (bvK BK149.out) hb); have n3_ := Aside0.mk (blk_below (g := gb158) (o := .cells #[.int .i64 t150, .slice Ao15 t151.length co15] 48 (0, 0)) (bvK BK158.out) hb); have n4_ := Aside0.mk (IsS121.below (by repeat (first | (with_reducible first | exact HI0.out | apply IsS121.alloc | apply IsS121.drewN | apply IsS121.drew | apply IsS121.set_1 | refine IsS121.far ?_ NB0_149.out _ | refine IsS121.far ?_ NB0_158.out _) | exact HI0.out)) hb); have n5_ := Aside0.mk (KeepBut.trans (by repeat (first | (with_reducible first | exact HK.out | apply KeepBut.set_ | apply keep_drewN | apply keep_drew | apply keep_alloc | refine keep_far ?_ GW149.out _ | refine keep_far ?_ GW158.out _) | exact HK.out)) (KeepBut.of_below hb g none) (.inl rfl)); have n6_ := Aside0.mk (below_step (by repeat (first | (with_reducible first | exact HB.out | apply bwA | apply bwN | apply bwD | refine below_set ?_ (IsS121.ge HI0.out) | refine below_set ?_ GE149.out | refine below_set ?_ GE158.out) | exact HB.out)) hb); clear HO_159001; clear BK149; clear BK158; clear HI0; clear HK; clear HB; have HO_159001 := n0_; have HO171 := n1_; have BK149 := n2_; have BK158 := n3_; have HI0 := n4_; have HK := n5_; have HB := n6_; clear n0_ n1_ n2_ n3_ n4_ n5_ n6_; clear hb ho31; obtain ⟨Ao32, co32, eo32⟩ := Kd.R_slice HO171.out; subst eo32) | ((with_reducible refine gate_callee (f := 80) rfl ?_); refine goesL_ (some 41) rfl rfl Try.func80 (by kernel_rfl) rfl #[.pointer (some ⟨g, 0, none⟩), .slice Ao32 y169.length co32] rfl lmB ?_; (with_reducible refine (spec_l40Rd_num.calls kj7 g s0_0 t168 _ _ y169 t172 t173 w0 _ ?side1 ?side2 ?side3 ?side4 ?side5 A27.out).mono ?_); (case side1 => repeat (first | (with_reducible first | exact HI0.out | apply IsS121.alloc | apply IsS121.drewN | apply IsS121.drew | apply IsS121.set_1 | refine IsS121.far ?_ NB0_149.out _ | refine IsS121.far ?_ NB0_158.out _) | exact HI0.out)); (case side2 => repeat (first | (with_reducible first | exact HB.out | apply bwA | apply bwN | apply bwD | refine below_set ?_ (IsS121.ge HI0.out) | refine below_set ?_ GE149.out | refine below_set ?_ GE158.out) | exact HB.out)); (case side3 => exact kcR (Kd.R_reads' HO171.out).2.2); (case side4 => exact (Kd.R_reads' HO171.out).2.1); (case side5 => exact far_slice (IsS121.own_ne HI0.out HO171.out (by decide))); rintro e w33 ⟨rfl, hi, hb, hk⟩; refine ⟨_, rfl, ?_⟩; have n0_ := Aside0.mk (Kd.R_mono (Kd.R_keep (IsS121.apart (show IsS121 w0 _ g s0_0 t168 from by repeat (first | (with_reducible first | exact HI0.out | apply IsS121.alloc | apply IsS121.drewN | apply IsS121.drew | apply IsS121.set_1 | refine IsS121.far ?_ NB0_149.out _ | refine IsS121.far ?_ NB0_158.out _) | exact HI0.out)) (rvR HO_159001.out) (by decide)) hk (fun _ h => h.2)) (fun _ h => h.1)); have n1_ := Aside0.mk (KeepBut.blk hk (g' := gb149) (o := .cells #[.int .i64 0, .slice none 0 0] 48 (0, 0)) (bvK BK149.out) NB149_0.out (by simp)); have n2_ := Aside0.mk (KeepBut.blk hk (g' := gb158) (o := .cells #[.int .i64 t150, .slice Ao15 t151.length co15] 48 (0, 0)) (bvK BK158.out) NB158_0.out (by simp)); have n3_ := Aside0.mk (Kd.R_mono (Kd.R_keep (IsS121.apart (show IsS121 w0 _ g s0_0 t168 from by repeat (first | (with_reducible first | exact HI0.out | apply IsS121.alloc | apply IsS121.drewN | apply IsS121.drew | apply IsS121.set_1 | refine IsS121.far ?_ NB0_149.out _ | refine IsS121.far ?_ NB0_158.out _) | exact HI0.out)) (rvR HO171.out) (by decide)) hk (fun _ h => h.2)) (fun _ h => h.1)); have n4_ := Aside0.mk (KeepBut.trans (by repeat (first | (with_reducible first | exact HK.out | apply KeepBut.set_ | apply keep_drewN | apply keep_drew | apply keep_alloc | refine keep_far ?_ GW149.out _ | refine keep_far ?_ GW158.out _) | exact HK.out)) hk (.inl rfl)); have n5_ := Aside0.mk (hb); have n6_ := Aside0.mk (hi); clear HO_159001; clear BK149; clear BK158; clear HO171; clear HK; clear HB; clear HI0; have HO_159001 := n0_; have BK149 := n1_; have BK158 := n2_; have HO171 := n3_; have HK := n4_; have HB := n5_; have HI0 := n6_; clear n0_ n1_ n2_ n3_ n4_ n5_ n6_; (try clear hb); (try clear hb2); (try clear hk); (try clear hi); have hnb34 := NB158_149.out; have hnc34 := NB149_158.out; have hnb35 := NB158_0.out; have hnc35 := NB0_158.out; have hcz36_0 : w33.cell? ⟨gb158, 0, none⟩ = some (.int .i64 t150) := (blk_cell BK158.out 0).trans rfl; have hcz36_1 : w33.cell? ⟨gb158, 1, none⟩ = some (.slice Ao15 t151.length co15) := (blk_cell BK158.out 1).trans rfl; have hfz36_0 := blk_frozen BK158.out 0; have hfz36_1 := blk_frozen BK158.out 1; have hnb37 := NB149_0.out; have hnc37 := NB0_149.out; have hcz38_0 : w33.cell? ⟨gb149, 0, none⟩ = some (.int .i64 0) := (blk_cell BK149.out 0).trans rfl; have hcz38_1 : w33.cell? ⟨gb149, 1, none⟩ = some (.slice none 0 0) := (blk_cell BK149.out 1).trans rfl; have hfz38_0 := blk_frozen BK149.out 0; have hfz38_1 := blk_frozen BK149.out 1))
       refine bodyPost_ret (results_ct rfl _ _ gb149 48 #[.int .i64 t172, .slice Ao15 t151.length co15] (0, 0) _ rfl (by (with_reducible repeat first | apply bkN | apply bkD | apply bkA); refine blk_put (cs := #[.int .i64 t172, .slice none 0 0]) ?_ 1 _ rfl; (with_reducible repeat first | apply bkN | apply bkD | apply bkA); refine blk_put (cs := #[.int .i64 0, .slice none 0 0]) ?_ 0 _ rfl; (with_reducible repeat first | apply bkN | apply bkD | apply bkA); refine blk_far ?_ NB149_158.out _; (with_reducible repeat first | apply bkN | apply bkD | apply bkA); exact BK149.out) Try.underlying48 rfl (by kernel_rfl)) rfl ?_
       exact ⟨_, by first | rfl | (simp [errW_none, errW_some] <;> rfl) | (simp only [← hji4]; first | rfl | (simp [errW_none, errW_some] <;> rfl)) | (simp [*, errW_none, errW_some] <;> rfl), by (with_reducible repeat first | apply rvA | apply rvN | apply rvD); exact Kd.R_mono (Kd.R_far (p := ⟨gb149, 1, none⟩) (Kd.R_far (p := ⟨gb149, 0, none⟩) (Kd.R_far (p := ⟨gb158, 0, none⟩) (Kd.R_types (Kd.R_types HO_159001.out BK158.out (by decide)) BK149.out (by decide)) (fun _ hk => hk.1.2) (.int .i64 t172)) (fun _ hk => hk.2) (.int .i64 t172)) (fun _ hk => hk.2) (.slice Ao15 t151.length co15)) (fun _ hk => trivial), by repeat (first | (with_reducible first | exact HI0.out | apply IsS121.alloc | apply IsS121.drewN | apply IsS121.drew | apply IsS121.set_1 | refine IsS121.far ?_ NB0_149.out _ | refine IsS121.far ?_ NB0_158.out _) | exact HI0.out), by repeat (first | (with_reducible first | exact HB.out | apply bwA | apply bwN | apply bwD | refine below_set ?_ (IsS121.ge HI0.out) | refine below_set ?_ GE149.out | refine below_set ?_ GE158.out) | exact HB.out), by repeat (first | (with_reducible first | exact HK.out | apply KeepBut.set_ | apply keep_drewN | apply keep_drew | apply keep_alloc | refine keep_far ?_ GW149.out _ | refine keep_far ?_ GW158.out _) | exact HK.out)⟩
      ·rw [if_neg c26] at H
       have c26b0 : (t167 == 0) = false := beq_eq_false_iff_ne.mpr c26
       have c26b1 : (t167 != 0) = true := bne_iff_ne.mpr c26
       have HC39 := Aside0.mk H
       clear H
       go_upto_region 9 with (first | ((with_reducible refine gate_callee (f := 79) rfl ?_); refine goesL_ (some 33) rfl rfl Try.func79 (by kernel_rfl) rfl #[.pointer (some ⟨g, 0, none⟩), .int .i64 14] rfl lmB ?_; (with_reducible refine (spec_l40Rd_pick.calls kj7 g s0_0 x1001_7 14 t165 t166 w0 _ ?side1 ?side2 A23.out).mono ?_); (case side1 => repeat (first | (with_reducible first | exact HI0.out | apply IsS121.alloc | apply IsS121.drewN | apply IsS121.drew | apply IsS121.set_1 | refine IsS121.far ?_ NB0_149.out _ | refine IsS121.far ?_ NB0_158.out _) | exact HI0.out)); (case side2 => repeat (first | (with_reducible first | exact HB.out | apply bwA | apply bwN | apply bwD | refine below_set ?_ (IsS121.ge HI0.out) | refine below_set ?_ GE149.out | refine below_set ?_ GE158.out) | exact HB.out)); rintro e w40 ⟨rfl, hi, hb, hk⟩; refine ⟨_, rfl, ?_⟩; have n0_ := Aside0.mk (Kd.R_mono (Kd.R_keep (IsS121.apart (show IsS121 w0 _ g s0_0 x1001_7 from by repeat (first | (with_reducible first | exact HI0.out | apply IsS121.alloc | apply IsS121.drewN | apply IsS121.drew | apply IsS121.set_1 | refine IsS121.far ?_ NB0_149.out _ | refine IsS121.far ?_ NB0_158.out _) | exact HI0.out)) (rvR HO_159001.out) (by decide)) hk (fun _ h => h.2)) (fun _ h => h.1)); have n1_ := Aside0.mk (KeepBut.blk hk (g' := gb149) (o := .cells #[.int .i64 0, .slice none 0 0] 48 (0, 0)) (bvK BK149.out) NB149_0.out (by simp)); have n2_ := Aside0.mk (KeepBut.blk hk (g' := gb158) (o := .cells #[.int .i64 t150, .slice Ao15 t151.length co15] 48 (0, 0)) (bvK BK158.out) NB158_0.out (by simp)); have n3_ := Aside0.mk (KeepBut.trans (by repeat (first | (with_reducible first | exact HK.out | apply KeepBut.set_ | apply keep_drewN | apply keep_drew | apply keep_alloc | refine keep_far ?_ GW149.out _ | refine keep_far ?_ GW158.out _) | exact HK.out)) hk (.inl rfl)); have n4_ := Aside0.mk (hb); have n5_ := Aside0.mk (hi); clear HO_159001; clear BK149; clear BK158; clear HK; clear HB; clear HI0; have HO_159001 := n0_; have BK149 := n1_; have BK158 := n2_; have HK := n3_; have HB := n4_; have HI0 := n5_; clear n0_ n1_ n2_ n3_ n4_ n5_; (try clear hb); (try clear hb2); (try clear hk); (try clear hi)) | ((with_reducible refine gate_callee (f := 79) rfl ?_); refine goesL_ (some 36) rfl rfl Try.func79 (by kernel_rfl) rfl #[.pointer (some ⟨g, 0, none⟩), .int .i64 4] rfl lmB ?_; (with_reducible refine (spec_l40Rd_pick.calls kj7 g s0_0 t166 4 t167 t168 w0 _ ?side1 ?side2 A25.out).mono ?_); (case side1 => repeat (first | (with_reducible first | exact HI0.out | apply IsS121.alloc | apply IsS121.drewN | apply IsS121.drew | apply IsS121.set_1 | refine IsS121.far ?_ NB0_149.out _ | refine IsS121.far ?_ NB0_158.out _) | exact HI0.out)); (case side2 => repeat (first | (with_reducible first | exact HB.out | apply bwA | apply bwN | apply bwD | refine below_set ?_ (IsS121.ge HI0.out) | refine below_set ?_ GE149.out | refine below_set ?_ GE158.out) | exact HB.out)); rintro e w41 ⟨rfl, hi, hb, hk⟩; refine ⟨_, rfl, ?_⟩; have n0_ := Aside0.mk (Kd.R_mono (Kd.R_keep (IsS121.apart (show IsS121 w0 _ g s0_0 t166 from by repeat (first | (with_reducible first | exact HI0.out | apply IsS121.alloc | apply IsS121.drewN | apply IsS121.drew | apply IsS121.set_1 | refine IsS121.far ?_ NB0_149.out _ | refine IsS121.far ?_ NB0_158.out _) | exact HI0.out)) (rvR HO_159001.out) (by decide)) hk (fun _ h => h.2)) (fun _ h => h.1)); have n1_ := Aside0.mk (KeepBut.blk hk (g' := gb149) (o := .cells #[.int .i64 0, .slice none 0 0] 48 (0, 0)) (bvK BK149.out) NB149_0.out (by simp)); have n2_ := Aside0.mk (KeepBut.blk hk (g' := gb158) (o := .cells #[.int .i64 t150, .slice Ao15 t151.length co15] 48 (0, 0)) (bvK BK158.out) NB158_0.out (by simp)); have n3_ := Aside0.mk (KeepBut.trans (by repeat (first | (with_reducible first | exact HK.out | apply KeepBut.set_ | apply keep_drewN | apply keep_drew | apply keep_alloc | refine keep_far ?_ GW149.out _ | refine keep_far ?_ GW158.out _) | exact HK.out)) hk (.inl rfl)); have n4_ := Aside0.mk (hb); have n5_ := Aside0.mk (hi); clear HO_159001; clear BK149; clear BK158; clear HK; clear HB; clear HI0; have HO_159001 := n0_; have BK149 := n1_; have BK158 := n2_; have HK := n3_; have HB := n4_; have HI0 := n5_; clear n0_ n1_ n2_ n3_ n4_ n5_; (try clear hb); (try clear hb2); (try clear hk); (try clear hi)))
       (try simp only [Act.put, List.setIfInBounds_toArray, List.set_cons_zero, List.set_cons_succ])
       go_cut [50] (fun v50 wc => ∃ (kq : Nat) (x50_38 : Bool), v50 = .bool x50_38 ∧ Aside0 (spec_l8Any.j1 kq x8_7 t167 x50_38 s0_0 t168 t150 t151 = some (r1, r2, r3, r4)) ∧ Aside0 (kq ≤ kj7) ∧ Aside0 (Kd.R k56 56 wc w.heap.size (fun _ => True) (.slice Ao15 t151.length co15) t151) ∧ Aside0 (wc.heap[gb149]? = some (.cells #[.int .i64 0, (.slice none 0 0)] 48 (0, 0))) ∧ Aside0 (wc.heap[gb158]? = some (.cells #[.int .i64 t150, (.slice Ao15 t151.length co15)] 48 (0, 0))) ∧ Aside0 (IsS121 w0 wc g s0_0 t168) ∧ Aside0 (KeepBut w wc g none) ∧ Aside0 (Below w0.heap.size w0 wc))
       case first =>
        have H := HC39.out
        clear HC39
        by_cases c42 : t167 = 1
        ·rw [if_pos c42] at H
         have c42b0 : (t167 == 1) = true := beq_iff_eq.mpr c42
         have c42b1 : (t167 != 1) = false := bne_eq_false_iff_eq.mpr c42
         clear c42
         (first | rw [c42b0] | (simp only [i64_w, i32_w]; rw [c42b0]) | skip)
         have H' := Aside0.mk H
         clear H
         have hnb43 := NB158_149.out
         have hnc43 := NB149_158.out
         have hnb44 := NB158_0.out
         have hnc44 := NB0_158.out
         have hcz45_0 : w41.cell? ⟨gb158, 0, none⟩ = some (.int .i64 t150) := (blk_cell BK158.out 0).trans rfl
         have hcz45_1 : w41.cell? ⟨gb158, 1, none⟩ = some (.slice Ao15 t151.length co15) := (blk_cell BK158.out 1).trans rfl
         have hfz45_0 := blk_frozen BK158.out 0
         have hfz45_1 := blk_frozen BK158.out 1
         go_wp2
         go_meet
         case rel => exact ⟨_, (decide ((t151.length : Int) > 0)), rsd, H', ⟨by have := HJ7.out; first | omega | exact Nat.le_refl _⟩, ⟨rvR HO_159001.out⟩, ⟨bvK BK149.out⟩, ⟨bvK BK158.out⟩, ⟨by repeat (first | (with_reducible first | exact HI0.out | apply IsS121.alloc | apply IsS121.drewN | apply IsS121.drew | apply IsS121.set_1 | refine IsS121.far ?_ NB0_149.out _ | refine IsS121.far ?_ NB0_158.out _) | exact HI0.out)⟩, ⟨by repeat (first | (with_reducible first | exact HK.out | apply KeepBut.set_ | apply keep_drewN | apply keep_drew | apply keep_alloc | refine keep_far ?_ GW149.out _ | refine keep_far ?_ GW158.out _) | exact HK.out)⟩, ⟨by repeat (first | (with_reducible first | exact HB.out | apply bwA | apply bwN | apply bwD | refine below_set ?_ (IsS121.ge HI0.out) | refine below_set ?_ GE149.out | refine below_set ?_ GE158.out) | exact HB.out)⟩⟩
        ·rw [if_neg c42] at H
         have c42b0 : (t167 == 1) = false := beq_eq_false_iff_ne.mpr c42
         have c42b1 : (t167 != 1) = true := bne_iff_ne.mpr c42
         (first | rw [c42b0] | (simp only [i64_w, i32_w]; rw [c42b0]) | skip)
         have H' := Aside0.mk H
         clear H
         go_wp2
         go_meet
         case rel => exact ⟨_, (false), rsd, H', ⟨by have := HJ7.out; first | omega | exact Nat.le_refl _⟩, ⟨rvR HO_159001.out⟩, ⟨bvK BK149.out⟩, ⟨bvK BK158.out⟩, ⟨by repeat (first | (with_reducible first | exact HI0.out | apply IsS121.alloc | apply IsS121.drewN | apply IsS121.drew | apply IsS121.set_1 | refine IsS121.far ?_ NB0_149.out _ | refine IsS121.far ?_ NB0_158.out _) | exact HI0.out)⟩, ⟨by repeat (first | (with_reducible first | exact HK.out | apply KeepBut.set_ | apply keep_drewN | apply keep_drew | apply keep_alloc | refine keep_far ?_ GW149.out _ | refine keep_far ?_ GW158.out _) | exact HK.out)⟩, ⟨by repeat (first | (with_reducible first | exact HB.out | apply bwA | apply bwN | apply bwD | refine below_set ?_ (IsS121.ge HI0.out) | refine below_set ?_ GE149.out | refine below_set ?_ GE158.out) | exact HB.out)⟩⟩
       case rest =>
        clear HC39
        try clear c1
        try clear p1
        try clear q1
        try clear hx1
        try clear c2
        try clear p2
        try clear c3
        try clear c4
        try clear c5
        try clear c5b0
        try clear c6
        try clear c6b0
        try clear p6
        try clear c7
        try clear c8
        try clear c11
        try clear c12
        try clear c13
        try clear p15
        try clear q15
        try clear hx15
        try clear p16
        try clear q16
        try clear hx16
        try clear c18
        try clear c18b0
        try clear c18b1
        try clear c20
        try clear c20b0
        try clear c21
        try clear c21b0
        try clear c24
        try clear c24b0
        try clear c24b1
        try clear c26
        try clear c26b0
        try clear c26b1
        try clear c34
        try clear c35
        try clear c37
        try clear c42
        try clear c42b0
        try clear c42b1
        try clear c43
        try clear c44
        try clear hcz14_0
        try clear hcz14_1
        try clear hcz36_0
        try clear hcz36_1
        try clear hcz38_0
        try clear hcz38_1
        try clear hcz45_0
        try clear hcz45_1
        try clear hfz14_0
        try clear hfz14_1
        try clear hfz36_0
        try clear hfz36_1
        try clear hfz38_0
        try clear hfz38_1
        try clear hfz45_0
        try clear hfz45_1
        try clear hx159_0
        try clear hx164_0
        try clear p1
        try clear p15
        try clear p159
        try clear p16
        try clear p164
        try clear p2
        try clear p6
        try clear q1
        try clear q15
        try clear q159
        try clear q16
        try clear q164
        obtain ⟨kq, x50_38, rfl, HA, HJ38, HO_159001, BK149, BK158, HI0, HK, HB⟩ := hcut
        cases kq with
        | zero => exact absurd HA.out (by simp [spec_l8Any.j1])
        | succ kj38 =>
         have H := HA.out
         clear HA
         simp only [spec_l8Any.j1] at H
         by_cases c46 : x50_38 = true
         ·subst c46
          have H1 : (if 0 < (t151.length : Int) then (if t151.length < 5864062014805 then (some (t150, (t151 ++ [(⟨(rd_T56 t151 0).f0, (rd_T56 t151 0).f1, (rd_T56 t151 0).f2⟩ : S56)]), x8_7, t168)) else (none)) else (none)) = some (r1, r2, r3, r4) := by rw [if_pos rfl] at H; exact H
          clear H
          have H := H1
          clear H1
          by_cases c47 : 0 < (t151.length : Int)
          ·rw [if_pos c47] at H
           have c47b0 : decide (0 < (t151.length : Int)) = true := decide_eq_true c47
           have c47b1 : decide (0 < t151.length) = true := decide_eq_true (by omega)
           clear c47
           by_cases c48 : t151.length < 5864062014805
           ·rw [if_pos c48] at H
            have LMc48 := Aside0.mk c48
            clear c48
            obtain ⟨y175, hy175⟩ : ∃ y_ : List (S56), y_ = (t151 ++ [(⟨(rd_T56 t151 0).f0, (rd_T56 t151 0).f1, (rd_T56 t151 0).f2⟩ : S56)]) := ⟨_, rfl⟩
            replace H : (some (t150, y175, x8_7, t168)) = some (r1, r2, r3, r4) := by first | (rw [hy175]; with_reducible exact H) | (have H2_ := (Option.bind_some _ _).symm.trans H; rw [hy175]; with_reducible exact H2_) | (have H2_ := (Option.bind_some _ _).symm.trans H; with_reducible exact H2_) | with_reducible exact H | (rw [hy175]; exact H) | exact H
            have Ny175 := Aside0.mk hy175
            clear hy175
            simp only [Option.some.injEq, Prod.mk.injEq] at H
            obtain ⟨rfl, rfl, rfl, rfl⟩ := H
            try go_wp2
            have n0_ := Aside0.mk (Kd.R_drew HO_159001.out)
            have n1_ := Aside0.mk (blk_drew BK149.out)
            have n2_ := Aside0.mk (blk_drew BK158.out)
            have n3_ := Aside0.mk (IsS121.drew HI0.out)
            have n4_ := Aside0.mk (keep_drew HK.out)
            have n5_ := Aside0.mk (below_drew1 HB.out)
            clear HO_159001
            clear BK149
            clear BK158
            clear HI0
            clear HK
            clear HB
            have HO_159001 := n0_
            have BK149 := n1_
            have BK158 := n2_
            have HI0 := n3_
            have HK := n4_
            have HB := n5_
            clear n0_ n1_ n2_ n3_ n4_ n5_
            have p174 : 0 ≤ (0 : Int) := (by omega)
            have q174 : 0 < (t151.length : Int) := oda
            obtain ⟨ad174, e174, hx174_0, hx174_1, hx174_2⟩ := at_T56 (Kd.R_reads' HO_159001.out).2.2 0 p174 q174
            cases e174
            have qi174 : (0 < t151.length) = True := eq_true (by omega)
            (try rw [show ((0 : Int)).toNat = 0 from rfl] at hx174_0)
            (try rw [show 0 * 3 = 0 from rfl] at hx174_0)
            (try rw [Addr.add_zero'] at hx174_0)
            (try rw [show ((0 : Int)).toNat = 0 from rfl] at hx174_1)
            (try rw [show 0 * 3 = 0 from rfl] at hx174_1)
            (try rw [Addr.add_zero'] at hx174_1)
            (try rw [show ((0 : Int)).toNat = 0 from rfl] at hx174_2)
            (try rw [show 0 * 3 = 0 from rfl] at hx174_2)
            (try rw [Addr.add_zero'] at hx174_2)
            replace p174 := eq_true p174
            replace q174 := eq_true q174
            refine start_ (n := 10) (S := fun w' => w'.cell? ⟨gb158, 0, none⟩ = some (.int .i64 t150) ∧ w'.cell? ⟨gb158, 1, none⟩ = some (.slice (some ad174) t151.length co15) ∧ w'.cell? ad174 = some (.int .i64 ((rd_T56 t151 0).f0)) ∧ w'.cell? ⟨ad174.block, ad174.off + 1, none⟩ = some (.int .i64 ((rd_T56 t151 0).f1)) ∧ w'.cell? ⟨ad174.block, ad174.off + 2, none⟩ = some (.int .i64 ((rd_T56 t151 0).f2))) (ds := [7, 9]) (Pt.bm 10 0) (by kernel_rfl) rfl rfl ⟨(blk_cell BK158.out 0).trans rfl, (blk_cell BK158.out 1).trans rfl, hx174_0, hx174_1, hx174_2⟩ (fun hHeld => ?_); refine with_tabW spec_l8Any.tab10 spec_l8Any.bits10 (fun HT_ HW_ => ?_)
            generalize wc.drew = w49 at HO_159001 BK149 BK158 HI0 HK HB hx174_0 hx174_1 hx174_2 hHeld ⊢
            refine Pt.pu 0 (some 51) (Pt.bm 10 1) (any_of HT_.out (by kernel_rfl)) ?_
            refine Pt.pu 2 (some 53) (Pt.bm 10 5) (any_of HT_.out (by kernel_rfl)) ?_
            refine Pt.tk 1 (some 52) (Pt.bm 10 7) rfl rfl (take_ofW HT_.out HW_.out (by kernel_rfl)) hHeld (Or.inl ⟨by rfl, by rintro w' ⟨s0, s1, s2, s3, s4⟩; go_simp; with_reducible rfl⟩) ?_
            refine Pt.tk 3 (some 54) (Pt.bm 10 15) rfl rfl (take_ofW HT_.out HW_.out (by kernel_rfl)) hHeld (Or.inl ⟨by rfl, by rintro w' ⟨s0, s1, s2, s3, s4⟩; go_simp; with_reducible rfl⟩) ?_
            refine Pt.pu 4 (some 55) (Pt.bm 10 31) (any_of HT_.out (by kernel_rfl)) ?_
            refine Pt.tk 5 (some 56) (Pt.bm 10 63) rfl rfl (take_ofW HT_.out HW_.out (by kernel_rfl)) hHeld (Or.inl ⟨by rfl, by rintro w' ⟨s0, s1, s2, s3, s4⟩; go_simp; with_reducible rfl⟩) ?_
            refine one_ (i := 6) (N := some 57) (Pt.bm 10 127) rfl rfl (one_of HT_.out (by kernel_rfl)) (by decide) (fun K hK => ?_)
            refine value_ (w1 := ?_) (v := ?_) (by rfl) rfl ?_ ?_
            rotate_left 2
            ·go_simp
             constructor
             ·rfl
             ·rfl
            refine hK.out _ _ ⟨(blk_cell (blk_alloc BK158.out _) 0).trans rfl, (blk_cell (blk_alloc BK158.out _) 1).trans rfl, (World.cell?_alloc_lt _ _ _ (World.block_lt_of_cell? _ _ (hHeld.2.2.1))).trans (hHeld.2.2.1), (World.cell?_alloc_lt _ _ _ (World.block_lt_of_cell? _ _ (hHeld.2.2.2.1))).trans (hHeld.2.2.2.1), (World.cell?_alloc_lt _ _ _ (World.block_lt_of_cell? _ _ (hHeld.2.2.2.2))).trans (hHeld.2.2.2.2)⟩ (fun hHeld => ?_)
            clear hK K
            refine norm_ (a' := ?_) ?_ ?_
            rotate_left
            ·show Act.put _ (some 57) _ = _
             simp only [Act.put, List.setIfInBounds_toArray, List.set_cons_zero, List.set_cons_succ, i64_w, i32_w]
             rfl
            refine last_ (i := 7) (N := some 58) (Pt.bm 10 255) rfl rfl (one_of HT_.out (by kernel_rfl)) (by decide) (fun K hK => ?_)
            refine Kd.R_append_step k56 w.heap.size (by rfl) (.tmp 52) (.tmp 57) 46 56 (.agg #[(.int .i64 0), (.int .i64 0), (.int .i64 0)]) 24 rfl Try.underlying46 info56 rfl (by decide) (by omega) (.slice (some ad174) t151.length co15) t151 (⟨(rd_T56 t151 0).f0, (rd_T56 t151 0).f1, (rd_T56 t151 0).f2⟩ : S56) [.int .i64 ((rd_T56 t151 0).f0), .int .i64 ((rd_T56 t151 0).f1), .int .i64 ((rd_T56 t151 0).f2)] (fun _ => True) (fun _ => False) rfl rfl ?aP (fun _ hk => hk.elim) ?aF ?aO (Below.refl _ _) ?aS ?aL ?_
            (case aP => exact k56_mkM _ _ _ (⟨(rd_T56 t151 0).f0, (rd_T56 t151 0).f1, (rd_T56 t151 0).f2⟩ : S56))
            (case aF => exact (fun _ _ => trivial))
            (case aO => exact (rvR HO_159001.out))
            (case aS => exact (keep_size (w := w) (g := g) (row := none) (by repeat (first | (with_reducible first | exact HK.out | apply KeepBut.set_ | apply keep_drewN | apply keep_drew | apply keep_alloc | refine keep_far ?_ GW149.out _ | refine keep_far ?_ GW158.out _) | exact HK.out))))
            (case aL => have := LMc48.out; omega)
            intro v176 w50 ho hb hg hat
            rw [← Ny175.out] at ho
            have n0_ := Aside0.mk (blk_grown (g := gb149) (o := .cells #[.int .i64 0, .slice none 0 0] 48 (0, 0)) (bvK BK149.out) hg (Kd.R_ne HO_159001.out BK149.out (by decide)))
            have n1_ := Aside0.mk (blk_grown (g := gb158) (o := .cells #[.int .i64 t150, .slice (some ad174) t151.length co15] 48 (0, 0)) (bvK BK158.out) hg (Kd.R_ne HO_159001.out BK158.out (by decide)))
            have n2_ := Aside0.mk (IsS121.grown (by repeat (first | (with_reducible first | exact HI0.out | apply IsS121.alloc | apply IsS121.drewN | apply IsS121.drew | apply IsS121.set_1 | refine IsS121.far ?_ NB0_149.out _ | refine IsS121.far ?_ NB0_158.out _) | exact HI0.out)) hg (IsS121.own_ne HI0.out HO_159001.out (by decide)))
            have n3_ := Aside0.mk (below_weaken (by repeat (first | (with_reducible first | exact HB.out | apply bwA | apply bwN | apply bwD | refine below_set ?_ (IsS121.ge HI0.out) | refine below_set ?_ GE149.out | refine below_set ?_ GE158.out) | exact HB.out)) HL.out hb)
            have n4_ := Aside0.mk (KeepBut.trans (by repeat (first | (with_reducible first | exact HK.out | apply KeepBut.set_ | apply keep_drewN | apply keep_drew | apply keep_alloc | refine keep_far ?_ GW149.out _ | refine keep_far ?_ GW158.out _) | exact HK.out)) (KeepBut.of_grown hg g) (Kd.R_base2 HO_159001.out))
            have n5_ := Aside0.mk (ho)
            clear BK149
            clear BK158
            clear HI0
            clear HB
            clear HK
            clear HO_159001
            have BK149 := n0_
            have BK158 := n1_
            have HI0 := n2_
            have HB := n3_
            have HK := n4_
            have HO177 := n5_
            clear n0_ n1_ n2_ n3_ n4_ n5_
            clear ho hb hg hat
            obtain ⟨Ao51, co51, eo51⟩ := Kd.R_slice HO177.out
            (first | subst eo51 | (injection eo51 with f1_ f2_ f3_; have f4_ := f1_.symm; have f5_ := f3_.symm; clear f1_ f2_ f3_; subst f4_; subst f5_))
            refine hK.out _ _ ?_
            clear hK K
            refine norm_ (a' := ?_) ?_ ?_
            rotate_left
            ·show Act.put _ (some 58) _ = _
             simp only [Act.put, List.setIfInBounds_toArray, List.set_cons_zero, List.set_cons_succ, i64_w, i32_w]
             rfl
            refine Pt.pu 8 (some 59) (Pt.bm 10 511) (any_of HT_.out (by kernel_rfl)) ?_
            refine last_ (i := 9) (N := none) (Pt.bm 10 1023) rfl rfl (one_of HT_.out (by kernel_rfl)) (by decide) (fun K hK => ?_)
            have hs52 : w50.cell? ⟨gb158, 1, none⟩ = some (.slice (some ad174) t151.length co15) := (blk_cell BK158.out 1).trans rfl
            have hfs52 := blk_frozen BK158.out 1
            have hns52_0 := NB149_158.out
            have hms52_0 := NB158_149.out
            refine skip_ (w1 := ?_) (by rfl) rfl ?_ ?_
            rotate_left
            ·go_simp
             rfl
            refine hK.out _ _ ?_
            clear hK K
            refine done_ (done_of HT_.out (by kernel_rfl)) ?_
            have hnb53 := NB158_149.out
            have hnc53 := NB149_158.out
            have hnb54 := NB158_0.out
            have hnc54 := NB0_158.out
            have hcz55_0 : w50.cell? ⟨gb158, 0, none⟩ = some (.int .i64 t150) := (blk_cell BK158.out 0).trans rfl
            have hcz55_1 : w50.cell? ⟨gb158, 1, none⟩ = some (.slice (some ad174) t151.length co15) := (blk_cell BK158.out 1).trans rfl
            have hfz55_0 := blk_frozen BK158.out 0
            have hfz55_1 := blk_frozen BK158.out 1
            have hnb56 := NB149_0.out
            have hnc56 := NB0_149.out
            have hcz57_0 : w50.cell? ⟨gb149, 0, none⟩ = some (.int .i64 0) := (blk_cell BK149.out 0).trans rfl
            have hcz57_1 : w50.cell? ⟨gb149, 1, none⟩ = some (.slice none 0 0) := (blk_cell BK149.out 1).trans rfl
            have hfz57_0 := blk_frozen BK149.out 0
            have hfz57_1 := blk_frozen BK149.out 1
            try go_wp2
            refine bodyPost_ret (results_ct rfl _ _ gb149 48 #[.int .i64 t150, .slice Ao51 y175.length co51] (0, 0) _ rfl (by (with_reducible repeat first | apply bkN | apply bkD | apply bkA); refine blk_put (cs := #[.int .i64 t150, .slice none 0 0]) ?_ 1 _ rfl; (with_reducible repeat first | apply bkN | apply bkD | apply bkA); refine blk_put (cs := #[.int .i64 0, .slice none 0 0]) ?_ 0 _ rfl; (with_reducible repeat first | apply bkN | apply bkD | apply bkA); refine blk_far ?_ NB149_158.out _; (with_reducible repeat first | apply bkN | apply bkD | apply bkA); exact BK149.out) Try.underlying48 rfl (by kernel_rfl)) rfl ?_
            exact ⟨_, by first | rfl | (simp [errW_none, errW_some] <;> rfl) | (simp only [← hji4]; first | rfl | (simp [errW_none, errW_some] <;> rfl)) | (simp [*, errW_none, errW_some] <;> rfl), by (with_reducible repeat first | apply rvA | apply rvN | apply rvD); exact Kd.R_mono (Kd.R_far (p := ⟨gb149, 1, none⟩) (Kd.R_far (p := ⟨gb149, 0, none⟩) (Kd.R_far (p := ⟨gb158, 1, none⟩) (Kd.R_types (Kd.R_types HO177.out BK158.out (by decide)) BK149.out (by decide)) (fun _ hk => hk.1.2) (.slice Ao51 y175.length co51)) (fun _ hk => hk.2) (.int .i64 t150)) (fun _ hk => hk.2) (.slice Ao51 y175.length co51)) (fun _ hk => trivial), by repeat (first | (with_reducible first | exact HI0.out | apply IsS121.alloc | apply IsS121.drewN | apply IsS121.drew | apply IsS121.set_1 | refine IsS121.far ?_ NB0_149.out _ | refine IsS121.far ?_ NB0_158.out _) | exact HI0.out), by repeat (first | (with_reducible first | exact HB.out | apply bwA | apply bwN | apply bwD | refine below_set ?_ (IsS121.ge HI0.out) | refine below_set ?_ GE149.out | refine below_set ?_ GE158.out) | exact HB.out), by repeat (first | (with_reducible first | exact HK.out | apply KeepBut.set_ | apply keep_drewN | apply keep_drew | apply keep_alloc | refine keep_far ?_ GW149.out _ | refine keep_far ?_ GW158.out _) | exact HK.out)⟩
           ·rw [if_neg c48] at H
            exact absurd H (by simp)
          ·rw [if_neg c47] at H
           exact absurd H (by simp)
         ·replace c46 := Bool.eq_false_iff.mpr c46
          subst c46
          have H1 : (if t167 = 2 then (spec_l8Any.j2 kj38 x8_7 (decide ((t151.length : Int) > 0)) s0_0 t168 t150 t151) else (spec_l8Any.j2 kj38 x8_7 false s0_0 t168 t150 t151)) = some (r1, r2, r3, r4) := by rw [if_neg (show ¬ (false = true) by decide)] at H; exact H
          clear H
          have H := H1
          clear H1
          have HC58 := Aside0.mk H
          clear H
          go_upto_region 11 with (fail)
          go_cut [67] (fun v67 wc => ∃ (kq : Nat) (x67_57 : Bool), v67 = .bool x67_57 ∧ Aside0 (spec_l8Any.j2 kq x8_7 x67_57 s0_0 t168 t150 t151 = some (r1, r2, r3, r4)) ∧ Aside0 (kq ≤ kj38) ∧ Aside0 (Kd.R k56 56 wc w.heap.size (fun _ => True) (.slice Ao15 t151.length co15) t151) ∧ Aside0 (wc.heap[gb149]? = some (.cells #[.int .i64 0, (.slice none 0 0)] 48 (0, 0))) ∧ Aside0 (wc.heap[gb158]? = some (.cells #[.int .i64 t150, (.slice Ao15 t151.length co15)] 48 (0, 0))) ∧ Aside0 (IsS121 w0 wc g s0_0 t168) ∧ Aside0 (KeepBut w wc g none) ∧ Aside0 (Below w0.heap.size w0 wc))
          case first =>
           have H := HC58.out
           clear HC58
           by_cases c59 : t167 = 2
           ·rw [if_pos c59] at H
            have c59b0 : (t167 == 2) = true := beq_iff_eq.mpr c59
            have c59b1 : (t167 != 2) = false := bne_eq_false_iff_eq.mpr c59
            clear c59
            (first | rw [c59b0] | (simp only [i64_w, i32_w]; rw [c59b0]) | skip)
            have H' := Aside0.mk H
            clear H
            have hnb60 := NB158_149.out
            have hnc60 := NB149_158.out
            have hnb61 := NB158_0.out
            have hnc61 := NB0_158.out
            have hcz62_0 : wc.cell? ⟨gb158, 0, none⟩ = some (.int .i64 t150) := (blk_cell BK158.out 0).trans rfl
            have hcz62_1 : wc.cell? ⟨gb158, 1, none⟩ = some (.slice Ao15 t151.length co15) := (blk_cell BK158.out 1).trans rfl
            have hfz62_0 := blk_frozen BK158.out 0
            have hfz62_1 := blk_frozen BK158.out 1
            go_wp2
            go_meet
            case rel => exact ⟨_, (decide ((t151.length : Int) > 0)), rsd, H', ⟨by have := HJ7.out; have := HJ38.out; first | omega | exact Nat.le_refl _⟩, ⟨rvR HO_159001.out⟩, ⟨bvK BK149.out⟩, ⟨bvK BK158.out⟩, ⟨by repeat (first | (with_reducible first | exact HI0.out | apply IsS121.alloc | apply IsS121.drewN | apply IsS121.drew | apply IsS121.set_1 | refine IsS121.far ?_ NB0_149.out _ | refine IsS121.far ?_ NB0_158.out _) | exact HI0.out)⟩, ⟨by repeat (first | (with_reducible first | exact HK.out | apply KeepBut.set_ | apply keep_drewN | apply keep_drew | apply keep_alloc | refine keep_far ?_ GW149.out _ | refine keep_far ?_ GW158.out _) | exact HK.out)⟩, ⟨by repeat (first | (with_reducible first | exact HB.out | apply bwA | apply bwN | apply bwD | refine below_set ?_ (IsS121.ge HI0.out) | refine below_set ?_ GE149.out | refine below_set ?_ GE158.out) | exact HB.out)⟩⟩
           ·rw [if_neg c59] at H
            have c59b0 : (t167 == 2) = false := beq_eq_false_iff_ne.mpr c59
            have c59b1 : (t167 != 2) = true := bne_iff_ne.mpr c59
            (first | rw [c59b0] | (simp only [i64_w, i32_w]; rw [c59b0]) | skip)
            have H' := Aside0.mk H
            clear H
            go_wp2
            go_meet
            case rel => exact ⟨_, (false), rsd, H', ⟨by have := HJ7.out; have := HJ38.out; first | omega | exact Nat.le_refl _⟩, ⟨rvR HO_159001.out⟩, ⟨bvK BK149.out⟩, ⟨bvK BK158.out⟩, ⟨by repeat (first | (with_reducible first | exact HI0.out | apply IsS121.alloc | apply IsS121.drewN | apply IsS121.drew | apply IsS121.set_1 | refine IsS121.far ?_ NB0_149.out _ | refine IsS121.far ?_ NB0_158.out _) | exact HI0.out)⟩, ⟨by repeat (first | (with_reducible first | exact HK.out | apply KeepBut.set_ | apply keep_drewN | apply keep_drew | apply keep_alloc | refine keep_far ?_ GW149.out _ | refine keep_far ?_ GW158.out _) | exact HK.out)⟩, ⟨by repeat (first | (with_reducible first | exact HB.out | apply bwA | apply bwN | apply bwD | refine below_set ?_ (IsS121.ge HI0.out) | refine below_set ?_ GE149.out | refine below_set ?_ GE158.out) | exact HB.out)⟩⟩
          case rest =>
           clear HC58
           try clear c1
           try clear p1
           try clear q1
           try clear hx1
           try clear qi1
           try clear c2
           try clear p2
           try clear c3
           try clear c4
           try clear c5
           try clear c5b0
           try clear c6
           try clear c6b0
           try clear p6
           try clear c7
           try clear c8
           try clear c11
           try clear c12
           try clear c13
           try clear p15
           try clear q15
           try clear hx15
           try clear p16
           try clear q16
           try clear hx16
           try clear p17
           try clear q17
           try clear hx17
           try clear qi17
           try clear c18
           try clear c18b0
           try clear c18b1
           try clear c20
           try clear c20b0
           try clear c21
           try clear c21b0
           try clear c24
           try clear c24b0
           try clear c24b1
           try clear c26
           try clear c26b0
           try clear c26b1
           try clear c34
           try clear c35
           try clear c37
           try clear c42
           try clear c42b0
           try clear c42b1
           try clear c43
           try clear c44
           try clear c46
           try clear c47
           try clear c47b0
           try clear c47b1
           try clear c48
           try clear c53
           try clear c54
           try clear c56
           try clear c59
           try clear c59b0
           try clear c59b1
           try clear c60
           try clear c61
           try clear hcz14_0
           try clear hcz14_1
           try clear hcz36_0
           try clear hcz36_1
           try clear hcz38_0
           try clear hcz38_1
           try clear hcz45_0
           try clear hcz45_1
           try clear hcz55_0
           try clear hcz55_1
           try clear hcz57_0
           try clear hcz57_1
           try clear hcz62_0
           try clear hcz62_1
           try clear hfz14_0
           try clear hfz14_1
           try clear hfz36_0
           try clear hfz36_1
           try clear hfz38_0
           try clear hfz38_1
           try clear hfz45_0
           try clear hfz45_1
           try clear hfz55_0
           try clear hfz55_1
           try clear hfz57_0
           try clear hfz57_1
           try clear hfz62_0
           try clear hfz62_1
           try clear hx159_0
           try clear hx164_0
           try clear hx174_0
           try clear hx174_1
           try clear hx174_2
           try clear p1
           try clear p15
           try clear p159
           try clear p16
           try clear p164
           try clear p174
           try clear p2
           try clear p6
           try clear q1
           try clear q15
           try clear q159
           try clear q16
           try clear q164
           try clear q174
           obtain ⟨kq, x67_57, rfl, HA, HJ57, HO_159001, BK149, BK158, HI0, HK, HB⟩ := hcut
           cases kq with
           | zero => exact absurd HA.out (by simp [spec_l8Any.j2])
           | succ kj57 =>
            have H := HA.out
            clear HA
            simp only [spec_l8Any.j2] at H
            by_cases c63 : x67_57 = true
            ·subst c63
             have H1 : (if 0 < (t151.length : Int) then ((spec_l40Rd_num.f kj57 s0_0 t168 (([1, 2, (-1)] : List Int))).bind fun bt182 => (some (t150, (t151.set (0 : Int).toNat (⟨(rd_T56 t151 0).f0, bt182.1, 1⟩ : S56)), x8_7, bt182.2))) else (none)) = some (r1, r2, r3, r4) := by rw [if_pos rfl] at H; exact H
             clear H
             have H := H1
             clear H1
             by_cases c64 : 0 < (t151.length : Int)
             ·rw [if_pos c64] at H
              have c64b0 : decide (0 < (t151.length : Int)) = true := decide_eq_true c64
              have c64b1 : decide (0 < t151.length) = true := decide_eq_true (by omega)
              clear c64
              obtain ⟨y179, hy179⟩ : ∃ y_ : List Int, y_ = (([1, 2, (-1)] : List Int)) := ⟨_, rfl⟩
              replace H : ((spec_l40Rd_num.f kj57 s0_0 t168 y179).bind fun bt182 => (some (t150, (t151.set (0 : Int).toNat (⟨(rd_T56 t151 0).f0, bt182.1, 1⟩ : S56)), x8_7, bt182.2))) = some (r1, r2, r3, r4) := by first | (rw [hy179]; with_reducible exact H) | (have H2_ := (Option.bind_some _ _).symm.trans H; rw [hy179]; with_reducible exact H2_) | (have H2_ := (Option.bind_some _ _).symm.trans H; with_reducible exact H2_) | with_reducible exact H | (rw [hy179]; exact H) | exact H
              have Ny179 := Aside0.mk hy179
              clear hy179
              replace H := Option.bind_eq_some_iff.mp H
              obtain ⟨⟨t182, t183⟩, A650, H⟩ := H
              replace H : (some (t150, (t151.set (0 : Int).toNat (⟨(rd_T56 t151 0).f0, t182, 1⟩ : S56)), x8_7, t183)) = some (r1, r2, r3, r4) := H
              have A65 := Aside0.mk A650
              clear A650
              obtain ⟨y184, hy184⟩ : ∃ y_ : List (S56), y_ = (t151.set (0 : Int).toNat (⟨(rd_T56 t151 0).f0, t182, 1⟩ : S56)) := ⟨_, rfl⟩
              replace H : (some (t150, y184, x8_7, t183)) = some (r1, r2, r3, r4) := by first | (rw [hy184]; with_reducible exact H) | (have H2_ := (Option.bind_some _ _).symm.trans H; rw [hy184]; with_reducible exact H2_) | (have H2_ := (Option.bind_some _ _).symm.trans H; with_reducible exact H2_) | with_reducible exact H | (rw [hy184]; exact H) | exact H
              have Ny184 := Aside0.mk hy184
              clear hy184
              simp only [Option.some.injEq, Prod.mk.injEq] at H
              obtain ⟨rfl, rfl, rfl, rfl⟩ := H
              try go_wp2
              have n0_ := Aside0.mk (Kd.R_drew HO_159001.out)
              have n1_ := Aside0.mk (blk_drew BK149.out)
              have n2_ := Aside0.mk (blk_drew BK158.out)
              have n3_ := Aside0.mk (IsS121.drew HI0.out)
              have n4_ := Aside0.mk (keep_drew HK.out)
              have n5_ := Aside0.mk (below_drew1 HB.out)
              clear HO_159001
              clear BK149
              clear BK158
              clear HI0
              clear HK
              clear HB
              have HO_159001 := n0_
              have BK149 := n1_
              have BK158 := n2_
              have HI0 := n3_
              have HK := n4_
              have HB := n5_
              clear n0_ n1_ n2_ n3_ n4_ n5_
              have p178 : 0 ≤ (0 : Int) := (by omega)
              have q178 : 0 < (t151.length : Int) := oda
              obtain ⟨ad178, e178, hx178_0, hx178_1, hx178_2⟩ := at_T56 (Kd.R_reads' HO_159001.out).2.2 0 p178 q178
              cases e178
              have qi178 : (0 < t151.length) = True := eq_true (by omega)
              (try rw [show ((0 : Int)).toNat = 0 from rfl] at hx178_0)
              (try rw [show 0 * 3 = 0 from rfl] at hx178_0)
              (try rw [Addr.add_zero'] at hx178_0)
              (try rw [show ((0 : Int)).toNat = 0 from rfl] at hx178_1)
              (try rw [show 0 * 3 = 0 from rfl] at hx178_1)
              (try rw [Addr.add_zero'] at hx178_1)
              (try rw [show ((0 : Int)).toNat = 0 from rfl] at hx178_2)
              (try rw [show 0 * 3 = 0 from rfl] at hx178_2)
              (try rw [Addr.add_zero'] at hx178_2)
              replace p178 := eq_true p178
              replace q178 := eq_true q178
              refine start_ (n := 13) (S := fun w' => w'.cell? ⟨gb158, 0, none⟩ = some (.int .i64 t150) ∧ w'.cell? ⟨gb158, 1, none⟩ = some (.slice (some ad178) t151.length co15) ∧ w'.cell? ad178 = some (.int .i64 ((rd_T56 t151 0).f0)) ∧ w'.cell? ⟨ad178.block, ad178.off + 1, none⟩ = some (.int .i64 ((rd_T56 t151 0).f1)) ∧ w'.cell? ⟨ad178.block, ad178.off + 2, none⟩ = some (.int .i64 ((rd_T56 t151 0).f2))) (ds := [12]) (Pt.bm 13 0) (by kernel_rfl) rfl rfl ⟨(blk_cell BK158.out 0).trans rfl, (blk_cell BK158.out 1).trans rfl, hx178_0, hx178_1, hx178_2⟩ (fun hHeld => ?_); refine with_tabW spec_l8Any.tab12 spec_l8Any.bits12 (fun HT_ HW_ => ?_)
              generalize wc.drew = w67 at HO_159001 BK149 BK158 HI0 HK HB hx178_0 hx178_1 hx178_2 hHeld ⊢
              refine Pt.pu 0 (some 68) (Pt.bm 13 1) (any_of HT_.out (by kernel_rfl)) ?_
              refine Pt.pu 2 (some 70) (Pt.bm 13 5) (any_of HT_.out (by kernel_rfl)) ?_
              refine Pt.pu 7 (some 75) (Pt.bm 13 133) (any_of HT_.out (by kernel_rfl)) ?_
              refine Pt.tk 1 (some 69) (Pt.bm 13 135) rfl rfl (take_ofW HT_.out HW_.out (by kernel_rfl)) hHeld (Or.inl ⟨by rfl, by rintro w' ⟨s0, s1, s2, s3, s4⟩; go_simp; with_reducible rfl⟩) ?_
              refine Pt.tk 3 (some 71) (Pt.bm 13 143) rfl rfl (take_ofW HT_.out HW_.out (by kernel_rfl)) hHeld (Or.inl ⟨by rfl, by rintro w' ⟨s0, s1, s2, s3, s4⟩; go_simp; with_reducible rfl⟩) ?_
              refine Pt.pu 4 (some 72) (Pt.bm 13 159) (any_of HT_.out (by kernel_rfl)) ?_
              refine Pt.pu 5 (some 73) (Pt.bm 13 191) (any_of HT_.out (by kernel_rfl)) ?_
              refine Pt.tk 6 (some 74) (Pt.bm 13 255) rfl rfl (take_ofW HT_.out HW_.out (by kernel_rfl)) hHeld (Or.inl ⟨by rfl, by rintro w' ⟨s0, s1, s2, s3, s4⟩; go_simp; with_reducible rfl⟩) ?_
              refine one_ (i := 8) (N := some 76) (Pt.bm 13 511) rfl rfl (one_of HT_.out (by kernel_rfl)) (by decide) (fun K hK => ?_)
              refine Kd.R_lit_step (Kd.int .i64) _ 3 ?hg (N := 76) ?hd (xs := ([1, 2, (-1)] : List Int)) (inner := [.int .i64 1, .int .i64 2, .int .i64 (-1)]) (ok := fun _ => True) (okp := fun _ => True) ?hr ?hp (fun _ hk => hk) trivial (Below.refl _ _) (Nat.le_refl _) (by simp) ?_; (case hd => rfl); (case hg => rfl); (case hr => first | (go_simp; done) | (go_simp; rfl)); (case hp => exact (Reps.one (show Kd.M (Kd.int .i64) _ _ _ 1 [.int .i64 1] from rfl) (Reps.one (show Kd.M (Kd.int .i64) _ _ _ 2 [.int .i64 2] from rfl) (Reps.one (show Kd.M (Kd.int .i64) _ _ _ (-1) [.int .i64 (-1)] from rfl) (Reps.none _ _)))))
              intro v180 w68 ho69 hb hg_ hnew_
              have HS2_ := (hb.cell (World.block_lt_of_cell? _ _ (hHeld.2.2.1))).trans (hHeld.2.2.1)
              have HS3_ := (hb.cell (World.block_lt_of_cell? _ _ (hHeld.2.2.2.1))).trans (hHeld.2.2.2.1)
              have HS4_ := (hb.cell (World.block_lt_of_cell? _ _ (hHeld.2.2.2.2))).trans (hHeld.2.2.2.2)
              clear hg_ hnew_
              (first | rw [← Ny179.out] at ho69 | (simp only [Int.reduceToNat] at ho69; rw [← Ny179.out] at ho69))
              have n0_ := Aside0.mk (Kd.R_below (rvR HO_159001.out) hb)
              have n1_ := Aside0.mk (Kd.R_lower ho69 (keep_size (w := w) (g := g) (row := none) (by repeat (first | (with_reducible first | exact HK.out | apply KeepBut.set_ | apply keep_drewN | apply keep_drew | apply keep_alloc | refine keep_far ?_ GW149.out _ | refine keep_far ?_ GW158.out _) | exact HK.out))))
              have n2_ := Aside0.mk (blk_below (g := gb149) (o := .cells #[.int .i64 0, .slice none 0 0] 48 (0, 0)) (bvK BK149.out) hb)
              have n3_ := Aside0.mk (blk_below (g := gb158) (o := .cells #[.int .i64 t150, .slice (some ad178) t151.length co15] 48 (0, 0)) (bvK BK158.out) hb)
              have n4_ := Aside0.mk (IsS121.below (by repeat (first | (with_reducible first | exact HI0.out | apply IsS121.alloc | apply IsS121.drewN | apply IsS121.drew | apply IsS121.set_1 | refine IsS121.far ?_ NB0_149.out _ | refine IsS121.far ?_ NB0_158.out _) | exact HI0.out)) hb)
              have n5_ := Aside0.mk (KeepBut.trans (by repeat (first | (with_reducible first | exact HK.out | apply KeepBut.set_ | apply keep_drewN | apply keep_drew | apply keep_alloc | refine keep_far ?_ GW149.out _ | refine keep_far ?_ GW158.out _) | exact HK.out)) (KeepBut.of_below hb g none) (.inl rfl))
              have n6_ := Aside0.mk (below_step (by repeat (first | (with_reducible first | exact HB.out | apply bwA | apply bwN | apply bwD | refine below_set ?_ (IsS121.ge HI0.out) | refine below_set ?_ GE149.out | refine below_set ?_ GE158.out) | exact HB.out)) hb)
              clear HO_159001
              clear BK149
              clear BK158
              clear HI0
              clear HK
              clear HB
              have HO_159001 := n0_
              have HO181 := n1_
              have BK149 := n2_
              have BK158 := n3_
              have HI0 := n4_
              have HK := n5_
              have HB := n6_
              clear n0_ n1_ n2_ n3_ n4_ n5_ n6_
              clear hb ho69
              obtain ⟨Ao70, co70, eo70⟩ := Kd.R_slice HO181.out
              (first | subst eo70 | (injection eo70 with f1_ f2_ f3_; have f4_ := f1_.symm; have f5_ := f3_.symm; clear f1_ f2_ f3_; subst f4_; subst f5_))
              refine hK.out _ _ ⟨(blk_cell BK158.out 0).trans rfl, (blk_cell BK158.out 1).trans rfl, HS2_, HS3_, HS4_⟩ (fun hHeld => ?_)
              clear hK K
              refine norm_ (a' := ?_) ?_ ?_
              rotate_left
              ·show Act.put _ (some 76) _ = _
               simp only [Act.put, List.setIfInBounds_toArray, List.set_cons_zero, List.set_cons_succ, i64_w, i32_w]
               rfl
              refine one_ (i := 9) (N := some 77) (Pt.bm 13 1023) rfl rfl (one_of HT_.out (by kernel_rfl)) (by decide) (fun K hK => ?_)
              refine goes_ Try.func80 (by kernel_rfl) rfl #[.pointer (some ⟨g, 0, none⟩), .slice Ao70 y179.length co70] (by rfl) rfl rfl lmB ?_
              with_reducible refine (spec_l40Rd_num.calls kj57 g s0_0 t168 _ _ y179 t182 t183 w0 _ ?side1 ?side2 ?side3 ?side4 ?side5 A65.out).mono ?_
              (case side1 => repeat (first | (with_reducible first | exact HI0.out | apply IsS121.alloc | apply IsS121.drewN | apply IsS121.drew | apply IsS121.set_1 | refine IsS121.far ?_ NB0_149.out _ | refine IsS121.far ?_ NB0_158.out _) | exact HI0.out))
              (case side2 => repeat (first | (with_reducible first | exact HB.out | apply bwA | apply bwN | apply bwD | refine below_set ?_ (IsS121.ge HI0.out) | refine below_set ?_ GE149.out | refine below_set ?_ GE158.out) | exact HB.out))
              (case side3 => exact kcR (Kd.R_reads' HO181.out).2.2)
              (case side4 => exact (Kd.R_reads' HO181.out).2.1)
              (case side5 => exact far_slice (IsS121.own_ne HI0.out HO181.out (by decide)))
              rintro e w71 ⟨rfl, hi, hb, hk⟩
              have HS2_ := keep_cell hk (hHeld.2.2.1) (by first | (rw [add_block]; exact Kd.own_blk (IsS121.own_ne HI0.out HO_159001.out (by decide))) | (show (Addr.add _ _).block ≠ _; rw [add_block]; exact Kd.own_blk (IsS121.own_ne HI0.out HO_159001.out (by decide))) | exact Kd.own_blk (IsS121.own_ne HI0.out HO_159001.out (by decide)) | (have q_ := Kd.own_blk (IsS121.own_ne HI0.out HO_159001.out (by decide)); exact q_))
              have HS3_ := keep_cell hk (hHeld.2.2.2.1) (by first | (rw [add_block]; exact Kd.own_blk (IsS121.own_ne HI0.out HO_159001.out (by decide))) | (show (Addr.add _ _).block ≠ _; rw [add_block]; exact Kd.own_blk (IsS121.own_ne HI0.out HO_159001.out (by decide))) | exact Kd.own_blk (IsS121.own_ne HI0.out HO_159001.out (by decide)) | (have q_ := Kd.own_blk (IsS121.own_ne HI0.out HO_159001.out (by decide)); exact q_))
              have HS4_ := keep_cell hk (hHeld.2.2.2.2) (by first | (rw [add_block]; exact Kd.own_blk (IsS121.own_ne HI0.out HO_159001.out (by decide))) | (show (Addr.add _ _).block ≠ _; rw [add_block]; exact Kd.own_blk (IsS121.own_ne HI0.out HO_159001.out (by decide))) | exact Kd.own_blk (IsS121.own_ne HI0.out HO_159001.out (by decide)) | (have q_ := Kd.own_blk (IsS121.own_ne HI0.out HO_159001.out (by decide)); exact q_))
              refine ⟨_, rfl, ?_⟩
              have n0_ := Aside0.mk (Kd.R_mono (Kd.R_keep (IsS121.apart (show IsS121 w0 _ g s0_0 t168 from by repeat (first | (with_reducible first | exact HI0.out | apply IsS121.alloc | apply IsS121.drewN | apply IsS121.drew | apply IsS121.set_1 | refine IsS121.far ?_ NB0_149.out _ | refine IsS121.far ?_ NB0_158.out _) | exact HI0.out)) (rvR HO_159001.out) (by decide)) hk (fun _ h => h.2)) (fun _ h => h.1))
              have n1_ := Aside0.mk (KeepBut.blk hk (g' := gb149) (o := .cells #[.int .i64 0, .slice none 0 0] 48 (0, 0)) (bvK BK149.out) NB149_0.out (by simp))
              have n2_ := Aside0.mk (KeepBut.blk hk (g' := gb158) (o := .cells #[.int .i64 t150, .slice (some ad178) t151.length co15] 48 (0, 0)) (bvK BK158.out) NB158_0.out (by simp))
              have n3_ := Aside0.mk (Kd.R_mono (Kd.R_keep (IsS121.apart (show IsS121 w0 _ g s0_0 t168 from by repeat (first | (with_reducible first | exact HI0.out | apply IsS121.alloc | apply IsS121.drewN | apply IsS121.drew | apply IsS121.set_1 | refine IsS121.far ?_ NB0_149.out _ | refine IsS121.far ?_ NB0_158.out _) | exact HI0.out)) (rvR HO181.out) (by decide)) hk (fun _ h => h.2)) (fun _ h => h.1))
              have n4_ := Aside0.mk (KeepBut.trans (by repeat (first | (with_reducible first | exact HK.out | apply KeepBut.set_ | apply keep_drewN | apply keep_drew | apply keep_alloc | refine keep_far ?_ GW149.out _ | refine keep_far ?_ GW158.out _) | exact HK.out)) hk (.inl rfl))
              have n5_ := Aside0.mk (hb)
              have n6_ := Aside0.mk (hi)
              clear HO_159001
              clear BK149
              clear BK158
              clear HO181
              clear HK
              clear HB
              clear HI0
              have HO_159001 := n0_
              have BK149 := n1_
              have BK158 := n2_
              have HO181 := n3_
              have HK := n4_
              have HB := n5_
              have HI0 := n6_
              clear n0_ n1_ n2_ n3_ n4_ n5_ n6_
              (try clear hb)
              (try clear hb2)
              (try clear hk)
              (try clear hi)
              have p66 : 0 ≤ (0 : Int) := (by omega)
              have q66 : (0 : Int) < ((t151.length : Int) : Int) := oda
              have qi66 : (0 < t151.length) = True := eq_true (by omega)
              obtain ⟨go66, co66, eo66, gb66, gl66, cl66, HG66⟩ := Kd.R_form HO_159001.out (by omega)
              (first | cases eo66 | (injection eo66 with ea_ en_ ec_; (first | subst ea_ | (injection ea_ with ea_; subst ea_)); subst ec_; clear en_))
              have GB66 := Aside0.mk gb66
              have GG66 := Aside0.mk HG66
              clear gb66 gl66 HG66
              (first | simp only [add_plain] at hx178_0 | skip)
              (first | simp only [add_plain] at hx178_1 | skip)
              (first | simp only [add_plain] at hx178_2 | skip)
              obtain ⟨ce66, hcl66, hM66, hcc66, hfr66⟩ := Kd.R_elem HO_159001.out z56 (0 : Int) p66 q66
              obtain rfl := k56_openM hM66
              have hx66_0 : World.cell? _ ⟨go66, (0 : Int).toNat * 3, none⟩ = some (.int .i64 ((rd_T56 t151 0).f0)) := hcc66 0 _ rfl
              have hx66_1 : World.cell? _ ⟨go66, (0 : Int).toNat * 3 + 1, none⟩ = some (.int .i64 ((rd_T56 t151 0).f1)) := hcc66 1 _ rfl
              have hx66_2 : World.cell? _ ⟨go66, (0 : Int).toNat * 3 + 2, none⟩ = some (.int .i64 ((rd_T56 t151 0).f2)) := hcc66 2 _ rfl
              have hf66_0 : World.frozen? _ ⟨go66, (0 : Int).toNat * 3, none⟩ = false := hfr66 0
              have hf66_1 : World.frozen? _ ⟨go66, (0 : Int).toNat * 3 + 1, none⟩ = false := hfr66 1
              have hf66_2 : World.frozen? _ ⟨go66, (0 : Int).toNat * 3 + 2, none⟩ = false := hfr66 2
              clear hcl66 hcc66 hfr66; (try clear hM66)
              (try rw [show ((0 : Int)).toNat = 0 from rfl] at hx66_0)
              (try simp only [Nat.reduceMul, Nat.zero_mul, Nat.zero_add, Nat.reduceAdd] at hx66_0)
              (try rw [show ((0 : Int)).toNat = 0 from rfl] at hf66_0)
              (try simp only [Nat.reduceMul, Nat.zero_mul, Nat.zero_add, Nat.reduceAdd] at hf66_0)
              (try rw [show ((0 : Int)).toNat = 0 from rfl] at hx66_1)
              (try simp only [Nat.reduceMul, Nat.zero_mul, Nat.zero_add, Nat.reduceAdd] at hx66_1)
              (try rw [show ((0 : Int)).toNat = 0 from rfl] at hf66_1)
              (try simp only [Nat.reduceMul, Nat.zero_mul, Nat.zero_add, Nat.reduceAdd] at hf66_1)
              (try rw [show ((0 : Int)).toNat = 0 from rfl] at hx66_2)
              (try simp only [Nat.reduceMul, Nat.zero_mul, Nat.zero_add, Nat.reduceAdd] at hx66_2)
              (try rw [show ((0 : Int)).toNat = 0 from rfl] at hf66_2)
              (try simp only [Nat.reduceMul, Nat.zero_mul, Nat.zero_add, Nat.reduceAdd] at hf66_2)
              replace p66 := eq_true p66
              replace q66 := eq_true q66
              have HN0_go66 := Aside0.mk (show g ≠ go66 from by have h_ := IsS121.own_ne HI0.out HO_159001.out (by decide); intro e_; exact h_ (by rw [e_]; rfl))
              obtain ⟨ce72, hcl72, hM72, hcc72, hfr72⟩ := Kd.R_elem HO_159001.out z56 (0 : Int) (by omega) (by have h_ : (0 : Int) < ((t151.length : Int) : Int) := oda; first | exact h_ | (have e_ := (Kd.R_reads' HO_159001.out).1; omega) | simpa using h_)
              obtain rfl := k56_openM hM72
              have HP72 := (Kd.R_seg HO_159001.out (0 : Int) (by omega) (by have h_ : (0 : Int) < ((t151.length : Int) : Int) := oda; first | exact h_ | (have e_ := (Kd.R_reads' HO_159001.out).1; omega) | simpa using h_) (seg := [.int .i64 ((rd_T56 t151 0).f0), .int .i64 t182, .int .i64 1]) (j := 0) hcl72 hcc72 (show 3 ≤ 3 from by decide) (x' := (⟨(rd_T56 t151 0).f0, t182, 1⟩ : S56)) (k56_mkM _ _ _ (⟨(rd_T56 t151 0).f0, t182, 1⟩ : S56) ) (fun _ hk => hk)).1
              rw [← Ny184.out] at HP72
              have HQ72 := Aside0.mk HP72
              clear hcl72 hcc72 hfr72 HP72; (try clear hM72)
              refine hK.out _ _ ⟨(blk_cell BK158.out 0).trans rfl, (blk_cell BK158.out 1).trans rfl, HS2_, HS3_, HS4_⟩ (fun hHeld => ?_)
              clear hK K
              refine norm_ (a' := ?_) ?_ ?_
              rotate_left
              ·show Act.put _ (some 77) _ = _
               simp only [Act.put, List.setIfInBounds_toArray, List.set_cons_zero, List.set_cons_succ, i64_w, i32_w]
               rfl
              refine Pt.pu 10 (some 78) (Pt.bm 13 2047) (any_of HT_.out (by kernel_rfl)) ?_
              refine Pt.pu 11 (some 79) (Pt.bm 13 4095) (any_of HT_.out (by kernel_rfl)) ?_
              refine last_ (i := 12) (N := none) (Pt.bm 13 8191) rfl rfl (one_of HT_.out (by kernel_rfl)) (by decide) (fun K hK => ?_)
              refine skip_ (w1 := ?_) (by rfl) rfl ?_ ?_
              rotate_left
              ·go_simp
               rfl
              refine hK.out _ _ ?_
              clear hK K
              refine done_ (done_of HT_.out (by kernel_rfl)) ?_
              have n0_ : Aside0 (Kd.R k56 56 (((w71.setCell ⟨go66, 0, none⟩ (.int .i64 ((rd_T56 t151 0).f0))).setCell ⟨go66, 1, none⟩ (.int .i64 t182)).setCell ⟨go66, 2, none⟩ (.int .i64 1)) w.heap.size (fun _ => True) (.slice (some ⟨go66, 0, none⟩) t151.length co15) y184) := ⟨rvR HQ72.out⟩
              have n1_ : Aside0 (Kd.R (Kd.int .i64) 3 (((w71.setCell ⟨go66, 0, none⟩ (.int .i64 ((rd_T56 t151 0).f0))).setCell ⟨go66, 1, none⟩ (.int .i64 t182)).setCell ⟨go66, 2, none⟩ (.int .i64 1)) w.heap.size (fun _ => True) (.slice Ao70 y179.length co70) y179) := ⟨by (with_reducible repeat first | apply rvA | apply rvN | apply rvD); exact Kd.R_mono (Kd.R_far (p := ⟨go66, 2, none⟩) (Kd.R_far (p := ⟨go66, 1, none⟩) (Kd.R_far (p := ⟨go66, 0, none⟩) (Kd.R_types HO181.out GG66.out (by decide)) (fun _ hk => hk.2) (.int .i64 ((rd_T56 t151 0).f0))) (fun _ hk => hk.2) (.int .i64 t182)) (fun _ hk => hk.2) (.int .i64 1)) (fun _ hk => trivial)⟩
              have n2_ : Aside0 ((((w71.setCell ⟨go66, 0, none⟩ (.int .i64 ((rd_T56 t151 0).f0))).setCell ⟨go66, 1, none⟩ (.int .i64 t182)).setCell ⟨go66, 2, none⟩ (.int .i64 1)).heap[gb149]? = some (.cells #[.int .i64 0, .slice none 0 0] 48 (0, 0))) := ⟨by (with_reducible repeat first | apply bkN | apply bkD | apply bkA); refine blk_far ?_ (by have h_ := Kd.R_ne HO_159001.out BK149.out (by decide); intro e_; exact h_ (by rw [e_]; rfl)) _; (with_reducible repeat first | apply bkN | apply bkD | apply bkA); refine blk_far ?_ (by have h_ := Kd.R_ne HO_159001.out BK149.out (by decide); intro e_; exact h_ (by rw [e_]; rfl)) _; (with_reducible repeat first | apply bkN | apply bkD | apply bkA); refine blk_far ?_ (by have h_ := Kd.R_ne HO_159001.out BK149.out (by decide); intro e_; exact h_ (by rw [e_]; rfl)) _; (with_reducible repeat first | apply bkN | apply bkD | apply bkA); exact BK149.out⟩
              have n3_ : Aside0 ((((w71.setCell ⟨go66, 0, none⟩ (.int .i64 ((rd_T56 t151 0).f0))).setCell ⟨go66, 1, none⟩ (.int .i64 t182)).setCell ⟨go66, 2, none⟩ (.int .i64 1)).heap[gb158]? = some (.cells #[.int .i64 t150, .slice (some ⟨go66, 0, none⟩) t151.length co15] 48 (0, 0))) := ⟨by (with_reducible repeat first | apply bkN | apply bkD | apply bkA); refine blk_far ?_ (by have h_ := Kd.R_ne HO_159001.out BK158.out (by decide); intro e_; exact h_ (by rw [e_]; rfl)) _; (with_reducible repeat first | apply bkN | apply bkD | apply bkA); refine blk_far ?_ (by have h_ := Kd.R_ne HO_159001.out BK158.out (by decide); intro e_; exact h_ (by rw [e_]; rfl)) _; (with_reducible repeat first | apply bkN | apply bkD | apply bkA); refine blk_far ?_ (by have h_ := Kd.R_ne HO_159001.out BK158.out (by decide); intro e_; exact h_ (by rw [e_]; rfl)) _; (with_reducible repeat first | apply bkN | apply bkD | apply bkA); exact BK158.out⟩
              have n4_ : Aside0 (IsS121 w0 (((w71.setCell ⟨go66, 0, none⟩ (.int .i64 ((rd_T56 t151 0).f0))).setCell ⟨go66, 1, none⟩ (.int .i64 t182)).setCell ⟨go66, 2, none⟩ (.int .i64 1)) g s0_0 t183) := ⟨by repeat (first | (with_reducible first | exact HI0.out | apply IsS121.alloc | apply IsS121.drewN | apply IsS121.drew | apply IsS121.set_1 | refine IsS121.far ?_ HN0_go66.out _ | refine IsS121.far ?_ HN0_go66.out _ | refine IsS121.far ?_ HN0_go66.out _ | refine IsS121.far ?_ NB0_149.out _ | refine IsS121.far ?_ NB0_158.out _) | exact HI0.out)⟩
              have n5_ : Aside0 (KeepBut w (((w71.setCell ⟨go66, 0, none⟩ (.int .i64 ((rd_T56 t151 0).f0))).setCell ⟨go66, 1, none⟩ (.int .i64 t182)).setCell ⟨go66, 2, none⟩ (.int .i64 1)) g none) := ⟨by repeat (first | (with_reducible first | exact HK.out | apply KeepBut.set_ | apply keep_drewN | apply keep_drew | apply keep_alloc | refine keep_far ?_ GB66.out _ | refine keep_far ?_ GB66.out _ | refine keep_far ?_ GB66.out _ | refine keep_far ?_ GW149.out _ | refine keep_far ?_ GW158.out _) | exact HK.out)⟩
              have n6_ : Aside0 (Below w0.heap.size w0 (((w71.setCell ⟨go66, 0, none⟩ (.int .i64 ((rd_T56 t151 0).f0))).setCell ⟨go66, 1, none⟩ (.int .i64 t182)).setCell ⟨go66, 2, none⟩ (.int .i64 1))) := ⟨by repeat (first | (with_reducible first | exact HB.out | apply bwA | apply bwN | apply bwD | refine below_set ?_ (Nat.le_trans HL.out GB66.out) | refine below_set ?_ (Nat.le_trans HL.out GB66.out) | refine below_set ?_ (Nat.le_trans HL.out GB66.out) | refine below_set ?_ (IsS121.ge HI0.out) | refine below_set ?_ GE149.out | refine below_set ?_ GE158.out) | exact HB.out)⟩
              (try clear HO_159001)
              (try clear HO181)
              (try clear BK149)
              (try clear BK158)
              (try clear HI0)
              (try clear HK)
              (try clear HB)
              generalize (((w71.setCell ⟨go66, 0, none⟩ (.int .i64 ((rd_T56 t151 0).f0))).setCell ⟨go66, 1, none⟩ (.int .i64 t182)).setCell ⟨go66, 2, none⟩ (.int .i64 1)) = w73 at n0_ n1_ n2_ n3_ n4_ n5_ n6_ ⊢
              have HO_159001 := n0_
              have HO181 := n1_
              have BK149 := n2_
              have BK158 := n3_
              have HI0 := n4_
              have HK := n5_
              have HB := n6_
              clear n0_ n1_ n2_ n3_ n4_ n5_ n6_
              have hnb74 := NB158_149.out
              have hnc74 := NB149_158.out
              have hnb75 := NB158_0.out
              have hnc75 := NB0_158.out
              have hcz76_0 : w73.cell? ⟨gb158, 0, none⟩ = some (.int .i64 t150) := (blk_cell BK158.out 0).trans rfl
              have hcz76_1 : w73.cell? ⟨gb158, 1, none⟩ = some (.slice (some ⟨go66, 0, none⟩) t151.length co15) := (blk_cell BK158.out 1).trans rfl
              have hfz76_0 := blk_frozen BK158.out 0
              have hfz76_1 := blk_frozen BK158.out 1
              have hnb77 := NB149_0.out
              have hnc77 := NB0_149.out
              have hcz78_0 : w73.cell? ⟨gb149, 0, none⟩ = some (.int .i64 0) := (blk_cell BK149.out 0).trans rfl
              have hcz78_1 : w73.cell? ⟨gb149, 1, none⟩ = some (.slice none 0 0) := (blk_cell BK149.out 1).trans rfl
              have hfz78_0 := blk_frozen BK149.out 0
              have hfz78_1 := blk_frozen BK149.out 1
              try go_wp2
              refine bodyPost_ret (results_ct rfl _ _ gb149 48 #[.int .i64 t150, .slice (some ⟨go66, 0, none⟩) t151.length co15] (0, 0) _ rfl (by (with_reducible repeat first | apply bkN | apply bkD | apply bkA); refine blk_put (cs := #[.int .i64 t150, .slice none 0 0]) ?_ 1 _ rfl; (with_reducible repeat first | apply bkN | apply bkD | apply bkA); refine blk_put (cs := #[.int .i64 0, .slice none 0 0]) ?_ 0 _ rfl; (with_reducible repeat first | apply bkN | apply bkD | apply bkA); exact BK149.out) Try.underlying48 rfl (by kernel_rfl)) rfl ?_
              exact ⟨_, by first | rfl | (simp [errW_none, errW_some] <;> rfl) | (simp only [← hji4]; first | rfl | (simp [errW_none, errW_some] <;> rfl)) | (simp [*, errW_none, errW_some] <;> rfl), by (with_reducible repeat first | apply rvA | apply rvN | apply rvD); exact Kd.R_mono (Kd.R_far (p := ⟨gb149, 1, none⟩) (Kd.R_far (p := ⟨gb149, 0, none⟩) (Kd.R_types HO_159001.out BK149.out (by decide)) (fun _ hk => hk.2) (.int .i64 t150)) (fun _ hk => hk.2) (.slice (some ⟨go66, 0, none⟩) t151.length co15)) (fun _ hk => trivial), by repeat (first | (with_reducible first | exact HI0.out | apply IsS121.alloc | apply IsS121.drewN | apply IsS121.drew | apply IsS121.set_1 | refine IsS121.far ?_ NB0_149.out _ | refine IsS121.far ?_ NB0_158.out _) | exact HI0.out), by repeat (first | (with_reducible first | exact HB.out | apply bwA | apply bwN | apply bwD | refine below_set ?_ (IsS121.ge HI0.out) | refine below_set ?_ GE149.out | refine below_set ?_ GE158.out) | exact HB.out), by repeat (first | (with_reducible first | exact HK.out | apply KeepBut.set_ | apply keep_drewN | apply keep_drew | apply keep_alloc | refine keep_far ?_ GW149.out _ | refine keep_far ?_ GW158.out _) | exact HK.out)⟩
             ·rw [if_neg c64] at H
              exact absurd H (by simp)
            ·replace c63 := Bool.eq_false_iff.mpr c63
             subst c63
             have H1 : ((spec_l40Rd_num.f kj57 s0_0 t168 (([wrap64 ((t151.length : Int) + 2), (-1)] : List Int))).bind fun bt188 => (some (t150, t151, bt188.1, bt188.2))) = some (r1, r2, r3, r4) := by rw [if_neg (show ¬ (false = true) by decide)] at H; exact H
             clear H
             have H := H1
             clear H1
             obtain ⟨y185, hy185⟩ : ∃ y_ : List Int, y_ = (([wrap64 ((t151.length : Int) + 2), (-1)] : List Int)) := ⟨_, rfl⟩
             replace H : ((spec_l40Rd_num.f kj57 s0_0 t168 y185).bind fun bt188 => (some (t150, t151, bt188.1, bt188.2))) = some (r1, r2, r3, r4) := by first | (rw [hy185]; with_reducible exact H) | (have H2_ := (Option.bind_some _ _).symm.trans H; rw [hy185]; with_reducible exact H2_) | (have H2_ := (Option.bind_some _ _).symm.trans H; with_reducible exact H2_) | with_reducible exact H | (rw [hy185]; exact H) | exact H
             have Ny185 := Aside0.mk hy185
             clear hy185
             replace H := Option.bind_eq_some_iff.mp H
             obtain ⟨⟨t188, t189⟩, A790, H⟩ := H
             replace H : (some (t150, t151, t188, t189)) = some (r1, r2, r3, r4) := H
             have A79 := Aside0.mk A790
             clear A790
             simp only [Option.some.injEq, Prod.mk.injEq] at H
             obtain ⟨rfl, rfl, rfl, rfl⟩ := H
             have hnb80 := NB158_149.out
             have hnc80 := NB149_158.out
             have hnb81 := NB158_0.out
             have hnc81 := NB0_158.out
             have hcz82_0 : wc.cell? ⟨gb158, 0, none⟩ = some (.int .i64 t150) := (blk_cell BK158.out 0).trans rfl
             have hcz82_1 : wc.cell? ⟨gb158, 1, none⟩ = some (.slice Ao15 t151.length co15) := (blk_cell BK158.out 1).trans rfl
             have hfz82_0 := blk_frozen BK158.out 0
             have hfz82_1 := blk_frozen BK158.out 1
             go_wp2_with (first | ((with_reducible refine gate_dst (N := 85) rfl ?_); (try (refine gate_guard (by rfl) ?_; dsimp only)); refine Kd.R_lit (Kd.int .i64) _ 3 ?hg (N := 85) ?hd (xs := ([wrap64 ((t151.length : Int) + 2), (-1)] : List Int)) (inner := [.int .i64 (wrap64 ((t151.length : Int) + 2)), .int .i64 (-1)]) (ok := fun _ => True) (okp := fun _ => True) ?hr ?hp (fun _ hk => hk) trivial (Below.refl _ _) (Nat.le_refl _) (by simp) ?_; (case hd => rfl); (case hg => rfl); (case hr => first | (go_simp; done) | (go_simp; rfl)); (case hp => exact (Reps.one (show Kd.M (Kd.int .i64) _ _ _ (wrap64 ((t151.length : Int) + 2)) [.int .i64 (wrap64 ((t151.length : Int) + 2))] from rfl) (Reps.one (show Kd.M (Kd.int .i64) _ _ _ (-1) [.int .i64 (-1)] from rfl) (Reps.none _ _)))); intro v186 w83 ho84 hb hg_ hnew_; clear hg_ hnew_; (first | rw [← Ny185.out] at ho84 | (simp only [Int.reduceToNat] at ho84; rw [← Ny185.out] at ho84)); have n0_ := Aside0.mk (Kd.R_below (rvR HO_159001.out) hb); have n1_ := Aside0.mk (Kd.R_lower ho84 (keep_size (w := w) (g := g) (row := none) (by repeat (first | (with_reducible first | exact HK.out | apply KeepBut.set_ | apply keep_drewN | apply keep_drew | apply keep_alloc | refine keep_far ?_ GW149.out _ | refine keep_far ?_ GW158.out _) | exact HK.out)))); have n2_ := Aside0.mk (blk_below (g := gb149) (o := .cells #[.int .i64 0, .slice none 0 0] 48 (0, 0)) (bvK BK149.out) hb); have n3_ := Aside0.mk (blk_below (g := gb158) (o := .cells #[.int .i64 t150, .slice Ao15 t151.length co15] 48 (0, 0)) (bvK BK158.out) hb); have n4_ := Aside0.mk (IsS121.below (by repeat (first | (with_reducible first | exact HI0.out | apply IsS121.alloc | apply IsS121.drewN | apply IsS121.drew | apply IsS121.set_1 | refine IsS121.far ?_ NB0_149.out _ | refine IsS121.far ?_ NB0_158.out _) | exact HI0.out)) hb); have n5_ := Aside0.mk (KeepBut.trans (by repeat (first | (with_reducible first | exact HK.out | apply KeepBut.set_ | apply keep_drewN | apply keep_drew | apply keep_alloc | refine keep_far ?_ GW149.out _ | refine keep_far ?_ GW158.out _) | exact HK.out)) (KeepBut.of_below hb g none) (.inl rfl)); have n6_ := Aside0.mk (below_step (by repeat (first | (with_reducible first | exact HB.out | apply bwA | apply bwN | apply bwD | refine below_set ?_ (IsS121.ge HI0.out) | refine below_set ?_ GE149.out | refine below_set ?_ GE158.out) | exact HB.out)) hb); clear HO_159001; clear BK149; clear BK158; clear HI0; clear HK; clear HB; have HO_159001 := n0_; have HO187 := n1_; have BK149 := n2_; have BK158 := n3_; have HI0 := n4_; have HK := n5_; have HB := n6_; clear n0_ n1_ n2_ n3_ n4_ n5_ n6_; clear hb ho84; obtain ⟨Ao85, co85, eo85⟩ := Kd.R_slice HO187.out; subst eo85) | ((with_reducible refine gate_callee (f := 80) rfl ?_); refine goesL_ (some 86) rfl rfl Try.func80 (by kernel_rfl) rfl #[.pointer (some ⟨g, 0, none⟩), .slice Ao85 y185.length co85] rfl lmB ?_; (with_reducible refine (spec_l40Rd_num.calls kj57 g s0_0 t168 _ _ y185 t188 t189 w0 _ ?side1 ?side2 ?side3 ?side4 ?side5 A79.out).mono ?_); (case side1 => repeat (first | (with_reducible first | exact HI0.out | apply IsS121.alloc | apply IsS121.drewN | apply IsS121.drew | apply IsS121.set_1 | refine IsS121.far ?_ NB0_149.out _ | refine IsS121.far ?_ NB0_158.out _) | exact HI0.out)); (case side2 => repeat (first | (with_reducible first | exact HB.out | apply bwA | apply bwN | apply bwD | refine below_set ?_ (IsS121.ge HI0.out) | refine below_set ?_ GE149.out | refine below_set ?_ GE158.out) | exact HB.out)); (case side3 => exact kcR (Kd.R_reads' HO187.out).2.2); (case side4 => exact (Kd.R_reads' HO187.out).2.1); (case side5 => exact far_slice (IsS121.own_ne HI0.out HO187.out (by decide))); rintro e w86 ⟨rfl, hi, hb, hk⟩; refine ⟨_, rfl, ?_⟩; have n0_ := Aside0.mk (Kd.R_mono (Kd.R_keep (IsS121.apart (show IsS121 w0 _ g s0_0 t168 from by repeat (first | (with_reducible first | exact HI0.out | apply IsS121.alloc | apply IsS121.drewN | apply IsS121.drew | apply IsS121.set_1 | refine IsS121.far ?_ NB0_149.out _ | refine IsS121.far ?_ NB0_158.out _) | exact HI0.out)) (rvR HO_159001.out) (by decide)) hk (fun _ h => h.2)) (fun _ h => h.1)); have n1_ := Aside0.mk (KeepBut.blk hk (g' := gb149) (o := .cells #[.int .i64 0, .slice none 0 0] 48 (0, 0)) (bvK BK149.out) NB149_0.out (by simp)); have n2_ := Aside0.mk (KeepBut.blk hk (g' := gb158) (o := .cells #[.int .i64 t150, .slice Ao15 t151.length co15] 48 (0, 0)) (bvK BK158.out) NB158_0.out (by simp)); have n3_ := Aside0.mk (Kd.R_mono (Kd.R_keep (IsS121.apart (show IsS121 w0 _ g s0_0 t168 from by repeat (first | (with_reducible first | exact HI0.out | apply IsS121.alloc | apply IsS121.drewN | apply IsS121.drew | apply IsS121.set_1 | refine IsS121.far ?_ NB0_149.out _ | refine IsS121.far ?_ NB0_158.out _) | exact HI0.out)) (rvR HO187.out) (by decide)) hk (fun _ h => h.2)) (fun _ h => h.1)); have n4_ := Aside0.mk (KeepBut.trans (by repeat (first | (with_reducible first | exact HK.out | apply KeepBut.set_ | apply keep_drewN | apply keep_drew | apply keep_alloc | refine keep_far ?_ GW149.out _ | refine keep_far ?_ GW158.out _) | exact HK.out)) hk (.inl rfl)); have n5_ := Aside0.mk (hb); have n6_ := Aside0.mk (hi); clear HO_159001; clear BK149; clear BK158; clear HO187; clear HK; clear HB; clear HI0; have HO_159001 := n0_; have BK149 := n1_; have BK158 := n2_; have HO187 := n3_; have HK := n4_; have HB := n5_; have HI0 := n6_; clear n0_ n1_ n2_ n3_ n4_ n5_ n6_; (try clear hb); (try clear hb2); (try clear hk); (try clear hi); have hcz87_0 : w86.cell? ⟨gb158, 0, none⟩ = some (.int .i64 t150) := (blk_cell BK158.out 0).trans rfl; have hcz87_1 : w86.cell? ⟨gb158, 1, none⟩ = some (.slice Ao15 t151.length co15) := (blk_cell BK158.out 1).trans rfl; have hfz87_0 := blk_frozen BK158.out 0; have hfz87_1 := blk_frozen BK158.out 1; have hnb88 := NB149_0.out; have hnc88 := NB0_149.out; have hcz89_0 : w86.cell? ⟨gb149, 0, none⟩ = some (.int .i64 0) := (blk_cell BK149.out 0).trans rfl; have hcz89_1 : w86.cell? ⟨gb149, 1, none⟩ = some (.slice none 0 0) := (blk_cell BK149.out 1).trans rfl; have hfz89_0 := blk_frozen BK149.out 0; have hfz89_1 := blk_frozen BK149.out 1))
             refine bodyPost_ret (results_ct rfl _ _ gb149 48 #[.int .i64 t150, .slice Ao15 t151.length co15] (0, 0) _ rfl (by (with_reducible repeat first | apply bkN | apply bkD | apply bkA); refine blk_put (cs := #[.int .i64 t150, .slice none 0 0]) ?_ 1 _ rfl; (with_reducible repeat first | apply bkN | apply bkD | apply bkA); refine blk_put (cs := #[.int .i64 0, .slice none 0 0]) ?_ 0 _ rfl; (with_reducible repeat first | apply bkN | apply bkD | apply bkA); exact BK149.out) Try.underlying48 rfl (by kernel_rfl)) rfl ?_
             exact ⟨_, by first | rfl | (simp [errW_none, errW_some] <;> rfl) | (simp only [← hji4]; first | rfl | (simp [errW_none, errW_some] <;> rfl)) | (simp [*, errW_none, errW_some] <;> rfl), by (with_reducible repeat first | apply rvA | apply rvN | apply rvD); exact Kd.R_mono (Kd.R_far (p := ⟨gb149, 1, none⟩) (Kd.R_far (p := ⟨gb149, 0, none⟩) (Kd.R_types HO_159001.out BK149.out (by decide)) (fun _ hk => hk.2) (.int .i64 t150)) (fun _ hk => hk.2) (.slice Ao15 t151.length co15)) (fun _ hk => trivial), by repeat (first | (with_reducible first | exact HI0.out | apply IsS121.alloc | apply IsS121.drewN | apply IsS121.drew | apply IsS121.set_1 | refine IsS121.far ?_ NB0_149.out _ | refine IsS121.far ?_ NB0_158.out _) | exact HI0.out), by repeat (first | (with_reducible first | exact HB.out | apply bwA | apply bwN | apply bwD | refine below_set ?_ (IsS121.ge HI0.out) | refine below_set ?_ GE149.out | refine below_set ?_ GE158.out) | exact HB.out), by repeat (first | (with_reducible first | exact HK.out | apply KeepBut.set_ | apply keep_drewN | apply keep_drew | apply keep_alloc | refine keep_far ?_ GW149.out _ | refine keep_far ?_ GW158.out _) | exact HK.out)⟩
     ·rw [if_neg c24] at H
      have c24b0 : (t165 == 0) = false := beq_eq_false_iff_ne.mpr c24
      have c24b1 : (t165 != 0) = true := bne_iff_ne.mpr c24
      simp only [Option.some.injEq, Prod.mk.injEq] at H
      obtain ⟨rfl, rfl, rfl, rfl⟩ := H
      go_wp2_with (first | ((with_reducible refine gate_callee (f := 79) rfl ?_); refine goesL_ (some 33) rfl rfl Try.func79 (by kernel_rfl) rfl #[.pointer (some ⟨g, 0, none⟩), .int .i64 14] rfl lmB ?_; (with_reducible refine (spec_l40Rd_pick.calls kj7 g s0_0 x1001_7 14 t165 t166 w0 _ ?side1 ?side2 A23.out).mono ?_); (case side1 => repeat (first | (with_reducible first | exact HI0.out | apply IsS121.alloc | apply IsS121.drewN | apply IsS121.drew | apply IsS121.set_1 | refine IsS121.far ?_ NB0_149.out _ | refine IsS121.far ?_ NB0_158.out _) | exact HI0.out)); (case side2 => repeat (first | (with_reducible first | exact HB.out | apply bwA | apply bwN | apply bwD | refine below_set ?_ (IsS121.ge HI0.out) | refine below_set ?_ GE149.out | refine below_set ?_ GE158.out) | exact HB.out)); rintro e w90 ⟨rfl, hi, hb, hk⟩; refine ⟨_, rfl, ?_⟩; have n0_ := Aside0.mk (Kd.R_mono (Kd.R_keep (IsS121.apart (show IsS121 w0 _ g s0_0 x1001_7 from by repeat (first | (with_reducible first | exact HI0.out | apply IsS121.alloc | apply IsS121.drewN | apply IsS121.drew | apply IsS121.set_1 | refine IsS121.far ?_ NB0_149.out _ | refine IsS121.far ?_ NB0_158.out _) | exact HI0.out)) (rvR HO_159001.out) (by decide)) hk (fun _ h => h.2)) (fun _ h => h.1)); have n1_ := Aside0.mk (KeepBut.blk hk (g' := gb149) (o := .cells #[.int .i64 0, .slice none 0 0] 48 (0, 0)) (bvK BK149.out) NB149_0.out (by simp)); have n2_ := Aside0.mk (KeepBut.blk hk (g' := gb158) (o := .cells #[.int .i64 t150, .slice Ao15 t151.length co15] 48 (0, 0)) (bvK BK158.out) NB158_0.out (by simp)); have n3_ := Aside0.mk (KeepBut.trans (by repeat (first | (with_reducible first | exact HK.out | apply KeepBut.set_ | apply keep_drewN | apply keep_drew | apply keep_alloc | refine keep_far ?_ GW149.out _ | refine keep_far ?_ GW158.out _) | exact HK.out)) hk (.inl rfl)); have n4_ := Aside0.mk (hb); have n5_ := Aside0.mk (hi); clear HO_159001; clear BK149; clear BK158; clear HK; clear HB; clear HI0; have HO_159001 := n0_; have BK149 := n1_; have BK158 := n2_; have HK := n3_; have HB := n4_; have HI0 := n5_; clear n0_ n1_ n2_ n3_ n4_ n5_; (try clear hb); (try clear hb2); (try clear hk); (try clear hi); have hnb91 := NB158_149.out; have hnc91 := NB149_158.out; have hnb92 := NB158_0.out; have hnc92 := NB0_158.out; have hcz93_0 : w90.cell? ⟨gb158, 0, none⟩ = some (.int .i64 t150) := (blk_cell BK158.out 0).trans rfl; have hcz93_1 : w90.cell? ⟨gb158, 1, none⟩ = some (.slice Ao15 t151.length co15) := (blk_cell BK158.out 1).trans rfl; have hfz93_0 := blk_frozen BK158.out 0; have hfz93_1 := blk_frozen BK158.out 1; have hnb94 := NB149_0.out; have hnc94 := NB0_149.out; have hcz95_0 : w90.cell? ⟨gb149, 0, none⟩ = some (.int .i64 0) := (blk_cell BK149.out 0).trans rfl; have hcz95_1 : w90.cell? ⟨gb149, 1, none⟩ = some (.slice none 0 0) := (blk_cell BK149.out 1).trans rfl; have hfz95_0 := blk_frozen BK149.out 0; have hfz95_1 := blk_frozen BK149.out 1))
      refine bodyPost_ret (results_ct rfl _ _ gb149 48 #[.int .i64 t150, .slice Ao15 t151.length co15] (0, 0) _ rfl (by (with_reducible repeat first | apply bkN | apply bkD | apply bkA); refine blk_put (cs := #[.int .i64 t150, .slice none 0 0]) ?_ 1 _ rfl; (with_reducible repeat first | apply bkN | apply bkD | apply bkA); refine blk_put (cs := #[.int .i64 0, .slice none 0 0]) ?_ 0 _ rfl; (with_reducible repeat first | apply bkN | apply bkD | apply bkA); exact BK149.out) Try.underlying48 rfl (by kernel_rfl)) rfl ?_
      exact ⟨_, by first | rfl | (simp [errW_none, errW_some] <;> rfl) | (simp only [← hji4]; first | rfl | (simp [errW_none, errW_some] <;> rfl)) | (simp [*, errW_none, errW_some] <;> rfl), by (with_reducible repeat first | apply rvA | apply rvN | apply rvD); exact Kd.R_mono (Kd.R_far (p := ⟨gb149, 1, none⟩) (Kd.R_far (p := ⟨gb149, 0, none⟩) (Kd.R_types HO_159001.out BK149.out (by decide)) (fun _ hk => hk.2) (.int .i64 t150)) (fun _ hk => hk.2) (.slice Ao15 t151.length co15)) (fun _ hk => trivial), by repeat (first | (with_reducible first | exact HI0.out | apply IsS121.alloc | apply IsS121.drewN | apply IsS121.drew | apply IsS121.set_1 | refine IsS121.far ?_ NB0_149.out _ | refine IsS121.far ?_ NB0_158.out _) | exact HI0.out), by repeat (first | (with_reducible first | exact HB.out | apply bwA | apply bwN | apply bwD | refine below_set ?_ (IsS121.ge HI0.out) | refine below_set ?_ GE149.out | refine below_set ?_ GE158.out) | exact HB.out), by repeat (first | (with_reducible first | exact HK.out | apply KeepBut.set_ | apply keep_drewN | apply keep_drew | apply keep_alloc | refine keep_far ?_ GW149.out _ | refine keep_far ?_ GW158.out _) | exact HK.out)⟩
  ·rw [if_neg c6] at H
   exact absurd H (by simp)
 ·rw [if_neg c5] at H
  exact absurd H (by simp)

end Go.Proofs.Ytpcckoljocpchaa.QFnReorderBack
