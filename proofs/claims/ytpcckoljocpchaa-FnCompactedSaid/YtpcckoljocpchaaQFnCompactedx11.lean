-- Written by a program of this session (mk.py). Lean checks it.
import Derived.Test.YtpcckoljocpchaaQFnCompactedx0
import Derived.Test.YtpcckoljocpchaaQFnCompactedx3
import Derived.Test.YtpcckoljocpchaaQFnCompactedx8
import Derived.Test.YtpcckoljocpchaaQFnCompactedx10
namespace Go.Proofs.Ytpcckoljocpchaa.QFnCompacted
open Go.RowKit Go.Proofs.YtpcckoljocpchaaW.PrintWords Go.Proofs.YtpcckoljocpchaaW.PrintLast Go.Proofs.YtpcckoljocpchaaW.PrintMore
attribute [local go_sem] max2_int min2_int max_two min_two max_three min_three max_four min_four   -- for this text's walks alone
set_option linter.unusedVariables false
set_option linter.unusedSimpArgs false

/-! ### spec_DrawCompacted: function 42 -/
def spec_DrawCompacted.f (k : Nat) (l0 : List Int) : Option (Int × (List (S56)) × Int) := (spec_l40Open.f l0).bind fun bt258 => ((spec_l8Any.f k bt258.1 bt258.2 5).bind fun bt261 => (some (bt261.1, bt261.2.1, bt261.2.2.1)))
theorem spec_DrawCompacted.mono : ∀ a0 k, LeO (spec_DrawCompacted.f k a0) (spec_DrawCompacted.f (k + 1) a0) := by
 intro a0 k
 unfold spec_DrawCompacted.f
 repeat' first
   | (with_reducible exact spec_l8Any.mono _ _ _ _)
   | (with_reducible exact LeO.refl _)
   | (with_reducible exact LeO.none _)
   | (with_reducible refine LeO.ite ?_ ?_)
   | (with_reducible refine LeO.bind ?_ (fun _ => ?_))
set_option maxHeartbeats 8000000 in
set_option maxRecDepth 100000 in
theorem spec_DrawCompacted.calls (k : Nat) (A0 : Option Addr) (c0 : Nat) (l0 : List Int) (r1 : Int) (r2 : List (S56)) (r3 : Int) (w : World) (hr0 : Kd.C (Kd.int .u8) w A0 l0.length l0) (hc0 : l0.length ≤ c0) (h : spec_DrawCompacted.f k l0 = some (r1, r2, r3)) :
  Calls Try.prog 42 #[.slice A0 l0.length c0] w fun e w' => ∃ v1_ : Value, e = .returned (.tuple #[.agg #[.int .i64 r1, v1_], .int .i64 r3]) ∧ Kd.R k56 56 w' w.heap.size (fun _ => True) v1_ r2 ∧ Below w.heap.size w w' := by
 have hu48 := Try.underlying48
 have HR0 := Aside0.mk hr0
 have HC0 := Aside0.mk hc0
 clear hr0 hc0
 have HB := Aside0.mk (Below.refl w.heap.size w)
 have H : ((spec_l40Open.f l0).bind fun bt258 => ((spec_l8Any.f k bt258.1 bt258.2 5).bind fun bt261 => (some (bt261.1, bt261.2.1, bt261.2.2.1)))) = some (r1, r2, r3) := h
 clear h
 replace H := Option.bind_eq_some_iff.mp H
 obtain ⟨⟨t258, t259⟩, A20, H⟩ := H
 replace H : ((spec_l8Any.f k t258 t259 5).bind fun bt261 => (some (bt261.1, bt261.2.1, bt261.2.2.1))) = some (r1, r2, r3) := H
 have A2 := Aside0.mk A20
 clear A20
 replace H := Option.bind_eq_some_iff.mp H
 obtain ⟨⟨t261, t262, t265, t266⟩, A30, H⟩ := H
 replace H : (some (t261, t262, t265)) = some (r1, r2, r3) := H
 have A3 := Aside0.mk A30
 clear A30
 simp only [Option.some.injEq, Prod.mk.injEq] at H
 obtain ⟨rfl, rfl, rfl⟩ := H
 go_enter Try.func42, Try.ntmps42
 go_wp2_with (first | ((with_reducible refine gate_dst (N := 2) rfl ?_); refine box_event ?hg (N := 2) ?hd (cs := #[.int .i64 0, .slice none 0 0]) (t := 48) ?hr ?_; (case hd => rfl); (case hg => rfl); (case hr => first | (go_simp; done) | (go_simp; rfl)); intro gb257 hg w4 hbox hb; have n0_ := Aside0.mk (below_step (by repeat (first | (with_reducible first | exact HB.out | apply bwA | apply bwN | apply bwD) | exact HB.out)) hb); have n1_ := Aside0.mk (hbox); have n2_ := Aside0.mk ((by rw [hg]; exact (below_size (by repeat (first | (with_reducible first | exact HB.out | apply bwA | apply bwN | apply bwD) | exact HB.out))) : w.heap.size ≤ gb257)); have n3_ := Aside0.mk ((by rw [hg]; exact (below_size (by repeat (first | (with_reducible first | exact HB.out | apply bwA | apply bwN | apply bwD) | exact HB.out))) : w.heap.size ≤ gb257)); clear HB; have HB := n0_; have BK257 := n1_; have GW257 := n2_; have GE257 := n3_; clear n0_ n1_ n2_ n3_; clear hb hbox hg) | ((with_reducible refine gate_callee (f := 67) rfl ?_); refine goesL_ (some 5) rfl rfl Try.func67 (by kernel_rfl) rfl #[.slice A0 l0.length c0] rfl lmB ?_; (with_reducible refine (spec_l40Open.calls _ _ l0 t258 t259 w _ ?side1 ?side2 ?side3 A2.out).mono ?_); (case side1 => repeat (first | (with_reducible first | exact HB.out | apply bwA | apply bwN | apply bwD | refine below_set ?_ GE257.out) | exact HB.out)); (case side2 => exact HR0.out); (case side3 => exact HC0.out); rintro e w5 ⟨g260, rfl, hi, hb, hb2⟩; refine ⟨_, rfl, ?_⟩; have n0_ := Aside0.mk (blk_below (g := gb257) (o := .cells #[.int .i64 0, .slice none 0 0] 48 (0, 0)) (bvK BK257.out) hb2); have n1_ := Aside0.mk (hb); have n2_ := Aside0.mk (hi); have n3_ := Aside0.mk (IsS121.ne_blk hi (blk_below (g := gb257) (o := .cells #[.int .i64 0, .slice none 0 0] 48 (0, 0)) (bvK BK257.out) hb2) (by decide)); have n4_ := Aside0.mk (Ne.symm (IsS121.ne_blk hi (blk_below (g := gb257) (o := .cells #[.int .i64 0, .slice none 0 0] 48 (0, 0)) (bvK BK257.out) hb2) (by decide))); clear BK257; clear HB; have BK257 := n0_; have HB := n1_; have HI260 := n2_; have NB260_257 := n3_; have NB257_260 := n4_; clear n0_ n1_ n2_ n3_ n4_; (try clear hb); (try clear hb2); (try clear hk); (try clear hi)) | ((with_reducible refine gate_callee (f := 83) rfl ?_); refine goesL_ (some 6) rfl rfl Try.func83 (by kernel_rfl) rfl #[.pointer (some ⟨g260, 0, none⟩), .int .i64 5] rfl lmB ?_; (with_reducible refine (spec_l8Any.calls k g260 t258 t259 5 t261 t262 t265 t266 w _ ?side1 ?side2 A3.out).mono ?_); (case side1 => repeat (first | (with_reducible first | exact HI260.out | apply IsS121.alloc | apply IsS121.drewN | apply IsS121.drew | apply IsS121.set_1 | refine IsS121.far ?_ NB260_257.out _) | exact HI260.out)); (case side2 => repeat (first | (with_reducible first | exact HB.out | apply bwA | apply bwN | apply bwD | refine below_set ?_ (IsS121.ge HI260.out) | refine below_set ?_ GE257.out) | exact HB.out)); rintro e w6 ⟨v263, rfl, ho0, hi, hb, hk⟩; refine ⟨_, rfl, ?_⟩; have n0_ := Aside0.mk (KeepBut.blk hk (g' := gb257) (o := .cells #[.int .i64 0, .slice none 0 0] 48 (0, 0)) (bvK BK257.out) NB257_260.out (by simp)); have n1_ := Aside0.mk (Kd.R_lower ho0 (below_size (by repeat (first | (with_reducible first | exact HB.out | apply bwA | apply bwN | apply bwD | refine below_set ?_ (IsS121.ge HI260.out) | refine below_set ?_ GE257.out) | exact HB.out)))); have n2_ := Aside0.mk (hb); have n3_ := Aside0.mk (hi); clear BK257; clear HB; clear HI260; have BK257 := n0_; have HO264 := n1_; have HB := n2_; have HI260 := n3_; clear n0_ n1_ n2_ n3_; (try clear hb); (try clear hb2); (try clear hk); (try clear hi); (try clear ho0); have hnb7 := NB257_260.out; have hnc7 := NB260_257.out; have hcz8_0 : w6.cell? ⟨gb257, 0, none⟩ = some (.int .i64 0) := (blk_cell BK257.out 0).trans rfl; have hcz8_1 : w6.cell? ⟨gb257, 1, none⟩ = some (.slice none 0 0) := (blk_cell BK257.out 1).trans rfl; have hfz8_0 := blk_frozen BK257.out 0; have hfz8_1 := blk_frozen BK257.out 1; obtain ⟨Ao9, co9, eo9⟩ := Kd.R_slice HO264.out; subst eo9))
 refine bodyPost_ret (results_ct rfl _ _ gb257 48 #[.int .i64 t261, .slice Ao9 t262.length co9] (0, 0) _ rfl (by (with_reducible repeat first | apply bkN | apply bkD | apply bkA); refine blk_put (cs := #[.int .i64 t261, .slice none 0 0]) ?_ 1 _ rfl; (with_reducible repeat first | apply bkN | apply bkD | apply bkA); refine blk_put (cs := #[.int .i64 0, .slice none 0 0]) ?_ 0 _ rfl; (with_reducible repeat first | apply bkN | apply bkD | apply bkA); exact BK257.out) Try.underlying48 rfl (by kernel_rfl)) rfl ?_
 exact ⟨_, ers, by (with_reducible repeat first | apply rvA | apply rvN | apply rvD); exact Kd.R_mono (Kd.R_far (p := ⟨gb257, 1, none⟩) (Kd.R_far (p := ⟨gb257, 0, none⟩) (Kd.R_types HO264.out BK257.out (by decide)) (fun _ hk => hk.2) (.int .i64 t261)) (fun _ hk => hk.2) (.slice Ao9 t262.length co9)) (fun _ hk => trivial), by repeat (first | (with_reducible first | exact HB.out | apply bwA | apply bwN | apply bwD | refine below_set ?_ (IsS121.ge HI260.out) | refine below_set ?_ GE257.out) | exact HB.out)⟩

/-! ### impl_Diagram_needs: function 133 -/
def impl_Diagram_needs.l0 : Nat → List Bool → Int → Int → List (S56) → Option (List Bool)
 | 0, _, _, _, _ => none
 | k + 1, x5, x6, x268000, x268001 => if x6 ≥ 0 then (if 0 ≤ (wrap64 (x6 + 2)) then (if (wrap64 (x6 + 2)) < (x5.length : Int) then (if rdOf false x5 (wrap64 (x6 + 2)) = true then (if 0 ≤ x6 then (if x6 < (x268001.length : Int) then (if 0 ≤ ((rd_T56 x268001 x6).f1) then (if ((rd_T56 x268001 x6).f1) < (x5.length : Int) then (if 0 ≤ ((rd_T56 x268001 x6).f2) then (if ((rd_T56 x268001 x6).f2) < (x5.length : Int) then (impl_Diagram_needs.l0 k ((x5.set (((rd_T56 x268001 x6).f1) : Int).toNat true).set (((rd_T56 x268001 x6).f2) : Int).toNat true) (wrap64 (x6 - 1)) x268000 x268001) else (none)) else (none)) else (none)) else (none)) else (none)) else (none)) else (impl_Diagram_needs.l0 k x5 (wrap64 (x6 - 1)) x268000 x268001)) else (none)) else (none)) else (some x5)
def impl_Diagram_needs.f (k : Nat) (a0_0 : Int) (l0_1 : List (S56)) (a1 : Int) : Option (List Bool) := if 0 ≤ (wrap64 ((l0_1.length : Int) + 2)) then (if (wrap64 ((l0_1.length : Int) + 2) : Int).toNat ≤ 281474976710656 then ((some (List.replicate (wrap64 ((l0_1.length : Int) + 2) : Int).toNat false : List Bool)).bind fun y268 => (if 0 ≤ a1 then (if a1 < (y268.length : Int) then (impl_Diagram_needs.l0 k (y268.set (a1 : Int).toNat true) (wrap64 ((l0_1.length : Int) - 1)) a0_0 l0_1) else (none)) else (none))) else (none)) else (none)
theorem impl_Diagram_needs.mono_l : ∀ k, (∀ y0 y1 y2 y3, LeO (impl_Diagram_needs.l0 k y0 y1 y2 y3) (impl_Diagram_needs.l0 (k + 1) y0 y1 y2 y3))
 | 0 => fun _ _ _ _ r h => by simp [impl_Diagram_needs.l0] at h
 | k + 1 => by
  have ih0 := impl_Diagram_needs.mono_l k
  ·intro y0 y1 y2 y3
   unfold impl_Diagram_needs.l0
   repeat' first
   | (with_reducible exact ih0 _ _ _ _)
   | (with_reducible exact LeO.refl _)
   | (with_reducible exact LeO.none _)
   | (with_reducible refine LeO.ite ?_ ?_)
   | (with_reducible refine LeO.bind ?_ (fun _ => ?_))
theorem impl_Diagram_needs.mono : ∀ a0 a1 a2 k, LeO (impl_Diagram_needs.f k a0 a1 a2) (impl_Diagram_needs.f (k + 1) a0 a1 a2) := by
 intro a0 a1 a2 k
 have ih0 := impl_Diagram_needs.mono_l k
 unfold impl_Diagram_needs.f
 repeat' first
   | (with_reducible exact ih0 _ _ _ _)
   | (with_reducible exact LeO.refl _)
   | (with_reducible exact LeO.none _)
   | (with_reducible refine LeO.ite ?_ ?_)
   | (with_reducible refine LeO.bind ?_ (fun _ => ?_))
def impl_Diagram_needs.T7 : Bool × List (List Nat × List Nat) := (true, [([], []), ([], []), ([1], [1]), ([], []), ([2, 3], [2, 3]), ([4], [4]), ([5], [5]), ([], []), ([], []), ([8], [8]), ([], []), ([9, 10], [9, 10]), ([11], [11]), ([12], [12]), ([0, 6, 0, 1, 2, 3, 4, 5, 6, 13], [0, 6]), ([14, 0, 1, 2, 3, 4, 5, 6, 13], [14]), ([7, 13, 0, 1, 2, 3, 4, 5, 6, 7, 8, 9, 10, 11, 12, 13, 14, 15], [7, 13]), ([16, 15, 0, 1, 2, 3, 4, 5, 6, 7, 8, 9, 10, 11, 12, 13, 14, 15], [16])])
def impl_Diagram_needs.B7 : List Nat := [0, 0, 2, 0, 14, 30, 62, 0, 0, 256, 0, 1792, 3840, 7936, 16255, 32639, 65535, 131071]
theorem impl_Diagram_needs.tab7 : rtab .any (opsOf Try.f133 7) = impl_Diagram_needs.T7 := by kernel_rfl
theorem impl_Diagram_needs.bits7 : waitsOk impl_Diagram_needs.T7.2 impl_Diagram_needs.B7 = true := by kernel_rfl
set_option maxHeartbeats 8000000 in
set_option maxRecDepth 100000 in
theorem impl_Diagram_needs.calls (k : Nat) (a0_0 : Int) (A0_1 : Option Addr) (c0_1 : Nat) (l0_1 : List (S56)) (a1 : Int) (r : List Bool) (w : World) (hr0_1 : Kd.C k56 w A0_1 l0_1.length l0_1) (hc0_1 : l0_1.length ≤ c0_1) (h : impl_Diagram_needs.f k a0_0 l0_1 a1 = some r) :
  Calls Try.prog 133 #[.agg #[.int .i64 a0_0, .slice A0_1 l0_1.length c0_1], .int .i64 a1] w fun e w' => ∃ v0_ : Value, e = .returned (v0_) ∧ Kd.R Kd.bool 4 w' w.heap.size (fun _ => True) v0_ r ∧ Below w.heap.size w w' := by
 have hu48 := Try.underlying48
 have HR0_1 := Aside0.mk hr0_1
 have HC0_1 := Aside0.mk hc0_1
 clear hr0_1 hc0_1
 have HB := Aside0.mk (Below.refl w.heap.size w)
 have H : (if 0 ≤ (wrap64 ((l0_1.length : Int) + 2)) then (if (wrap64 ((l0_1.length : Int) + 2) : Int).toNat ≤ 281474976710656 then ((some (List.replicate (wrap64 ((l0_1.length : Int) + 2) : Int).toNat false : List Bool)).bind fun y268 => (if 0 ≤ a1 then (if a1 < (y268.length : Int) then (impl_Diagram_needs.l0 k (y268.set (a1 : Int).toNat true) (wrap64 ((l0_1.length : Int) - 1)) a0_0 l0_1) else (none)) else (none))) else (none)) else (none)) = some r := h
 clear h
 obtain ⟨ji3, hji3⟩ : ∃ j_ : Int, (wrap64 ((l0_1.length : Int) + 2)) = j_ := ⟨_, rfl⟩
 replace H : (if 0 ≤ (ji3) then (if (ji3 : Int).toNat ≤ 281474976710656 then ((some (List.replicate (ji3 : Int).toNat false : List Bool)).bind fun y268 => (if 0 ≤ a1 then (if a1 < (y268.length : Int) then (impl_Diagram_needs.l0 k (y268.set (a1 : Int).toNat true) (wrap64 ((l0_1.length : Int) - 1)) a0_0 l0_1) else (none)) else (none))) else (none)) else (none)) = some r := by first | (rw [hji3] at H; exact H) | (simp only [hji3] at H ⊢; exact H)
 have hji3w : (IntKind.i64.wrap ((l0_1.length : Int) + 2)) = ji3 := (i64_w _).trans hji3
 by_cases c4 : 0 ≤ (ji3)
 ·rw [if_pos c4] at H
  have c4b0 := eq_true c4
  have c4b1 : decide (0 ≤ (ji3)) = true := decide_eq_true c4
  clear c4
  by_cases c5 : (ji3 : Int).toNat ≤ 281474976710656
  ·rw [if_pos c5] at H
   have c5b0 := eq_true c5
   have c5b1 : decide ((ji3 : Int).toNat ≤ 281474976710656) = true := decide_eq_true c5
   clear c5
   obtain ⟨y268, hy268⟩ : ∃ y_ : List Bool, y_ = (List.replicate (ji3 : Int).toNat false) := ⟨_, rfl⟩
   replace H : (if 0 ≤ a1 then (if a1 < (y268.length : Int) then (impl_Diagram_needs.l0 k (y268.set (a1 : Int).toNat true) (wrap64 ((l0_1.length : Int) - 1)) a0_0 l0_1) else (none)) else (none)) = some r := by first | (rw [hy268]; with_reducible exact H) | (have H2_ := (Option.bind_some _ _).symm.trans H; rw [hy268]; with_reducible exact H2_) | (have H2_ := (Option.bind_some _ _).symm.trans H; with_reducible exact H2_) | with_reducible exact H | (rw [hy268]; exact H) | exact H
   have Ny268 := Aside0.mk hy268
   clear hy268
   by_cases c6 : 0 ≤ a1
   ·rw [if_pos c6] at H
    have c6b0 : decide (0 ≤ a1) = true := decide_eq_true c6
    clear c6
    by_cases c7 : a1 < (y268.length : Int)
    ·rw [if_pos c7] at H
     have c7b0 : decide (a1 < (y268.length : Int)) = true := decide_eq_true c7
     clear c7
     obtain ⟨y271, hy271⟩ : ∃ y_ : List Bool, y_ = (y268.set (a1 : Int).toNat true) := ⟨_, rfl⟩
     replace H : (impl_Diagram_needs.l0 k y271 (wrap64 ((l0_1.length : Int) - 1)) a0_0 l0_1) = some r := by first | (rw [hy271]; with_reducible exact H) | (have H2_ := (Option.bind_some _ _).symm.trans H; rw [hy271]; with_reducible exact H2_) | (have H2_ := (Option.bind_some _ _).symm.trans H; with_reducible exact H2_) | with_reducible exact H | (rw [hy271]; exact H) | exact H
     have Ny271 := Aside0.mk hy271
     clear hy271
     have H' := Aside0.mk H
     clear H
     go_enter Try.func133, Try.ntmps133
     go_wp2_with (first | ((with_reducible refine gate_dst (N := 2) rfl ?_); refine box_event ?hg (N := 2) ?hd (cs := #[.int .i64 a0_0, .slice A0_1 l0_1.length c0_1]) (t := 48) ?hr ?_; (case hd => rfl); (case hg => rfl); (case hr => first | (go_simp; done) | (go_simp; rfl)); intro gb267 hg w9 hbox hb; have n0_ := Aside0.mk (below_step (by repeat (first | (with_reducible first | exact HB.out | apply bwA | apply bwN | apply bwD) | exact HB.out)) hb); have n1_ := Aside0.mk (hbox); have n2_ := Aside0.mk ((by rw [hg]; exact (below_size (by repeat (first | (with_reducible first | exact HB.out | apply bwA | apply bwN | apply bwD) | exact HB.out))) : w.heap.size ≤ gb267)); have n3_ := Aside0.mk ((by rw [hg]; exact (below_size (by repeat (first | (with_reducible first | exact HB.out | apply bwA | apply bwN | apply bwD) | exact HB.out))) : w.heap.size ≤ gb267)); clear HB; have HB := n0_; have BK267 := n1_; have GW267 := n2_; have GE267 := n3_; clear n0_ n1_ n2_ n3_; clear hb hbox hg; have hcz10_0 : w9.cell? ⟨gb267, 0, none⟩ = some (.int .i64 a0_0) := (blk_cell BK267.out 0).trans rfl; have hcz10_1 : w9.cell? ⟨gb267, 1, none⟩ = some (.slice A0_1 l0_1.length c0_1) := (blk_cell BK267.out 1).trans rfl; have hfz10_0 := blk_frozen BK267.out 0; have hfz10_1 := blk_frozen BK267.out 1) | ((with_reducible refine gate_dst (N := 11) rfl ?_); refine Kd.R_make Kd.bool _ 4 rfl (N := 11) rfl 99 _ _ rfl ji3 rfl rfl Try.underlying99 (.bool false) 1 info4 rfl (by decide) (by omega) false (ok := fun _ => True) (okp := fun _ => True) rfl (fun _ hk => hk) trivial (oda) (Nat.le_trans (Nat.mul_le_mul_right _ (oda : ji3.toNat ≤ 281474976710656)) (by omega)) (Below.refl _ _) (Nat.le_refl _) ?_; intro v269 w11 ho12 hb hg_ hnew_; clear hg_ hnew_; (first | rw [← Ny268.out] at ho12 | (simp only [Int.reduceToNat] at ho12; rw [← Ny268.out] at ho12)); have n0_ := Aside0.mk (Kd.R_lower ho12 (below_size (by repeat (first | (with_reducible first | exact HB.out | apply bwA | apply bwN | apply bwD | refine below_set ?_ GE267.out) | exact HB.out)))); have n1_ := Aside0.mk (blk_below (g := gb267) (o := .cells #[.int .i64 a0_0, .slice A0_1 l0_1.length c0_1] 48 (0, 0)) (bvK BK267.out) hb); have n2_ := Aside0.mk (below_step (by repeat (first | (with_reducible first | exact HB.out | apply bwA | apply bwN | apply bwD | refine below_set ?_ GE267.out) | exact HB.out)) hb); clear BK267; clear HB; have HO270 := n0_; have BK267 := n1_; have HB := n2_; clear n0_ n1_ n2_; clear hb ho12; have p8 : 0 ≤ (a1 : Int) := oda; have q8 : (a1 : Int) < ((y268.length : Int) : Int) := oda; obtain ⟨go8, co8, eo8, gb8, gl8, cl8, HG8⟩ := Kd.R_form HO270.out (by first | omega | (have e_ := (Kd.R_reads' HO270.out).1; omega)); (first | cases eo8 | (injection eo8 with ea_ en_ ec_; (first | subst ea_ | (injection ea_ with ea_; subst ea_)); subst ec_; clear en_)); have GB8 := Aside0.mk gb8; have GG8 := Aside0.mk HG8; clear gb8 gl8 HG8; obtain ⟨hx8_0, hf8_0⟩ := Kd.R_celln false HO270.out (a1 : Int) p8 q8; replace p8 := eq_true p8; replace q8 := eq_true q8; obtain ⟨hy13_, hz13_⟩ := Kd.R_celln false HO270.out (a1 : Int) (oda) (oda); have HP13 := Kd.R_putg HO270.out (a1 : Int) true) | ((with_reducible refine gate_store (t := 4) (p := 14) rfl ?_); refine store_event (t := 4) (p := 14) (v := ?vo_w14) (w1 := (w11.setCell ⟨go8, (a1 : Int).toNat, none⟩ (.bool true))) ?hg ?ho ?hn ?hr ?_; (case ho => rfl); (case hg => rfl); (case hn => rfl); (case hr => first | (go_simp; done) | (go_simp; rfl)); intro w14 hw; have hg : w11.grownBy w14 (some go8) := (by rw [hw]; exact HP13.2); have hp_ : Kd.R Kd.bool 4 w14 w.heap.size (fun _ => True) (.slice (some ⟨go8, 0, none⟩) y268.length co8) y271 := (by rw [hw, Ny271.out]; exact HP13.1); clear HP13; have n0_ := Aside0.mk (blk_grown (g := gb267) (o := .cells #[.int .i64 a0_0, .slice A0_1 l0_1.length c0_1] 48 (0, 0)) (bvK BK267.out) hg (Kd.R_ne HO270.out BK267.out (by decide))); have n1_ := Aside0.mk (hp_); have n2_ := Aside0.mk ((by rw [hw]; exact below_set (HB.out) GB8.out : Below w.heap.size w w14)); clear BK267; clear HO270; clear HB; have BK267 := n0_; have HO270 := n1_; have HB := n2_; clear n0_ n1_ n2_; clear hg hw hp_; have hcz15_0 : w14.cell? ⟨gb267, 0, none⟩ = some (.int .i64 a0_0) := (blk_cell BK267.out 0).trans rfl; have hcz15_1 : w14.cell? ⟨gb267, 1, none⟩ = some (.slice A0_1 l0_1.length c0_1) := (blk_cell BK267.out 1).trans rfl; have hfz15_0 := blk_frozen BK267.out 0; have hfz15_1 := blk_frozen BK267.out 1))
     go_loopg [6] k (fun kq v6 w' => ∃ (x5_1 : List Bool) (x6_1 : Int), v6 = .int .i64 x6_1 ∧ Aside0 (impl_Diagram_needs.l0 kq x5_1 x6_1 a0_0 l0_1 = some r) ∧ Aside0 (kq ≤ k) ∧ Aside0 (Kd.R Kd.bool 4 w' w.heap.size (fun _ => True) (.slice (some ⟨go8, 0, none⟩) y268.length co8) x5_1) ∧ Aside0 (w'.heap[gb267]? = some (.cells #[.int .i64 a0_0, (.slice A0_1 l0_1.length c0_1)] 48 (0, 0))) ∧ Aside0 (Below w.heap.size w w'))
     case atStart => exact ⟨(y271), (wrap64 ((l0_1.length : Int) - 1)), rsd, H', ⟨Nat.le_refl _⟩, ⟨rvR HO270.out⟩, ⟨bvK BK267.out⟩, ⟨by repeat (first | (with_reducible first | exact HB.out | apply bwA | apply bwN | apply bwD | refine below_set ?_ GE267.out) | exact HB.out)⟩⟩
     case round =>
      clear H'
      try clear c1
      try clear p2
      try clear c4
      try clear c4b0
      try clear c4b1
      try clear c5
      try clear c5b0
      try clear c5b1
      try clear c6
      try clear c6b0
      try clear p6
      try clear c7
      try clear c7b0
      try clear p8
      try clear q8
      try clear hx8
      try clear hf8
      try clear c13
      try clear hcz10_0
      try clear hcz10_1
      try clear hcz15_0
      try clear hcz15_1
      try clear hfz10_0
      try clear hfz10_1
      try clear hfz15_0
      try clear hfz15_1
      try clear hx8_0
      try clear p8
      try clear q8
      obtain ⟨x5_1, x6_1, rfl, HA, HK1, HO_5, BK267, HB⟩ := hrel
      have hl5_1 := (Kd.R_reads' HO_5.out).1
      rw [hl5_1] at HO_5
      (try simp only [hl5_1])
      (try simp only [hl5_1] at BK267)
      cases gk with
      | zero => exact absurd HA.out (by simp [impl_Diagram_needs.l0])
      | succ k1 =>
       have H := HA.out
       clear HA
       simp only [impl_Diagram_needs.l0] at H
       by_cases c16 : x6_1 ≥ 0
       ·rw [if_pos c16] at H
        have c16b0 : decide (0 ≤ x6_1) = true := decide_eq_true c16
        clear c16
        obtain ⟨ji17, hji17⟩ : ∃ j_ : Int, (wrap64 (x6_1 + 2)) = j_ := ⟨_, rfl⟩
        replace H : (if 0 ≤ (ji17) then (if (ji17) < (x5_1.length : Int) then (if rdOf false x5_1 (ji17) = true then (if 0 ≤ x6_1 then (if x6_1 < (l0_1.length : Int) then (if 0 ≤ ((rd_T56 l0_1 x6_1).f1) then (if ((rd_T56 l0_1 x6_1).f1) < (x5_1.length : Int) then (if 0 ≤ ((rd_T56 l0_1 x6_1).f2) then (if ((rd_T56 l0_1 x6_1).f2) < (x5_1.length : Int) then (impl_Diagram_needs.l0 k1 ((x5_1.set (((rd_T56 l0_1 x6_1).f1) : Int).toNat true).set (((rd_T56 l0_1 x6_1).f2) : Int).toNat true) (wrap64 (x6_1 - 1)) a0_0 l0_1) else (none)) else (none)) else (none)) else (none)) else (none)) else (none)) else (impl_Diagram_needs.l0 k1 x5_1 (wrap64 (x6_1 - 1)) a0_0 l0_1)) else (none)) else (none)) = some r := by first | (rw [hji17] at H; exact H) | (simp only [hji17] at H ⊢; exact H)
        have hji17w : (IntKind.i64.wrap (x6_1 + 2)) = ji17 := (i64_w _).trans hji17
        by_cases c18 : 0 ≤ (ji17)
        ·rw [if_pos c18] at H
         have c18b0 : decide (0 ≤ (ji17)) = true := decide_eq_true c18
         clear c18
         by_cases c19 : (ji17) < (x5_1.length : Int)
         ·rw [if_pos c19] at H
          have c19b0 : decide ((ji17) < (x5_1.length : Int)) = true := decide_eq_true c19
          clear c19
          obtain ⟨bq20, hbq20⟩ : ∃ b_ : Bool, b_ = (rdOf false x5_1 (ji17)) := ⟨_, rfl⟩
          replace H : (if bq20 = true then (if 0 ≤ x6_1 then (if x6_1 < (l0_1.length : Int) then (if 0 ≤ ((rd_T56 l0_1 x6_1).f1) then (if ((rd_T56 l0_1 x6_1).f1) < (x5_1.length : Int) then (if 0 ≤ ((rd_T56 l0_1 x6_1).f2) then (if ((rd_T56 l0_1 x6_1).f2) < (x5_1.length : Int) then (impl_Diagram_needs.l0 k1 ((x5_1.set (((rd_T56 l0_1 x6_1).f1) : Int).toNat true).set (((rd_T56 l0_1 x6_1).f2) : Int).toNat true) (wrap64 (x6_1 - 1)) a0_0 l0_1) else (none)) else (none)) else (none)) else (none)) else (none)) else (none)) else (impl_Diagram_needs.l0 k1 x5_1 (wrap64 (x6_1 - 1)) a0_0 l0_1)) = some r := by rw [← hbq20] at H; exact H
          have Nbq20 := Aside0.mk hbq20
          clear hbq20
          by_cases c21 : bq20 = true
          ·subst c21
           have H1 : (if 0 ≤ x6_1 then (if x6_1 < (l0_1.length : Int) then (if 0 ≤ ((rd_T56 l0_1 x6_1).f1) then (if ((rd_T56 l0_1 x6_1).f1) < (x5_1.length : Int) then (if 0 ≤ ((rd_T56 l0_1 x6_1).f2) then (if ((rd_T56 l0_1 x6_1).f2) < (x5_1.length : Int) then (impl_Diagram_needs.l0 k1 ((x5_1.set (((rd_T56 l0_1 x6_1).f1) : Int).toNat true).set (((rd_T56 l0_1 x6_1).f2) : Int).toNat true) (wrap64 (x6_1 - 1)) a0_0 l0_1) else (none)) else (none)) else (none)) else (none)) else (none)) else (none)) = some r := by rw [if_pos rfl] at H; exact H
           clear H
           have H := H1
           clear H1
           by_cases c22 : 0 ≤ x6_1
           ·rw [if_pos c22] at H
            have c22b0 : decide (0 ≤ x6_1) = true := decide_eq_true c22
            clear c22
            by_cases c23 : x6_1 < (l0_1.length : Int)
            ·rw [if_pos c23] at H
             have c23b0 : decide (x6_1 < (l0_1.length : Int)) = true := decide_eq_true c23
             clear c23
             by_cases c24 : 0 ≤ ((rd_T56 l0_1 x6_1).f1)
             ·rw [if_pos c24] at H
              have c24b0 : decide (0 ≤ ((rd_T56 l0_1 x6_1).f1)) = true := decide_eq_true c24
              clear c24
              by_cases c25 : ((rd_T56 l0_1 x6_1).f1) < (x5_1.length : Int)
              ·rw [if_pos c25] at H
               have c25b0 : decide (((rd_T56 l0_1 x6_1).f1) < (x5_1.length : Int)) = true := decide_eq_true c25
               clear c25
               obtain ⟨y275, hy275⟩ : ∃ y_ : List Bool, y_ = (x5_1.set (((rd_T56 l0_1 x6_1).f1) : Int).toNat true) := ⟨_, rfl⟩
               replace H : (if 0 ≤ ((rd_T56 l0_1 x6_1).f2) then (if ((rd_T56 l0_1 x6_1).f2) < (x5_1.length : Int) then (impl_Diagram_needs.l0 k1 (y275.set (((rd_T56 l0_1 x6_1).f2) : Int).toNat true) (wrap64 (x6_1 - 1)) a0_0 l0_1) else (none)) else (none)) = some r := by first | (rw [hy275]; with_reducible exact H) | (have H2_ := (Option.bind_some _ _).symm.trans H; rw [hy275]; with_reducible exact H2_) | (have H2_ := (Option.bind_some _ _).symm.trans H; with_reducible exact H2_) | with_reducible exact H | (rw [hy275]; exact H) | exact H
               have Ny275 := Aside0.mk hy275
               clear hy275
               by_cases c27 : 0 ≤ ((rd_T56 l0_1 x6_1).f2)
               ·rw [if_pos c27] at H
                have c27b0 : decide (0 ≤ ((rd_T56 l0_1 x6_1).f2)) = true := decide_eq_true c27
                clear c27
                by_cases c28 : ((rd_T56 l0_1 x6_1).f2) < (x5_1.length : Int)
                ·rw [if_pos c28] at H
                 have c28b0 : decide (((rd_T56 l0_1 x6_1).f2) < (x5_1.length : Int)) = true := decide_eq_true c28
                 clear c28
                 obtain ⟨y276, hy276⟩ : ∃ y_ : List Bool, y_ = (y275.set (((rd_T56 l0_1 x6_1).f2) : Int).toNat true) := ⟨_, rfl⟩
                 replace H : (impl_Diagram_needs.l0 k1 y276 (wrap64 (x6_1 - 1)) a0_0 l0_1) = some r := by first | (rw [hy276]; with_reducible exact H) | (have H2_ := (Option.bind_some _ _).symm.trans H; rw [hy276]; with_reducible exact H2_) | (have H2_ := (Option.bind_some _ _).symm.trans H; with_reducible exact H2_) | with_reducible exact H | (rw [hy276]; exact H) | exact H
                 have Ny276 := Aside0.mk hy276
                 clear hy276
                 have H' := Aside0.mk H
                 clear H
                 have p272 : 0 ≤ ((ji17) : Int) := oda
                 have q272 : (ji17) < (x5_1.length : Int) := oda
                 obtain ⟨ad272, e272, hx272_0⟩ := Kd.at_bool (Kd.R_reads' HO_5.out).2.2 (ji17) p272 q272
                 (try rw [← Nbq20.out] at hx272_0)
                 obtain rfl : (⟨go8, 0, none⟩ : Addr) = ad272 := (by injection e272)
                 (first | simp only [add_plain] at hx272_0 | simp only [add_at] at hx272_0 | simp only [Addr.add, Nat.zero_add] at hx272_0 | skip)
                 replace p272 := eq_true p272
                 replace q272 := eq_true q272
                 try go_wp2
                 have n0_ := Aside0.mk (Kd.R_drew HO_5.out)
                 have n1_ := Aside0.mk (blk_drew BK267.out)
                 have n2_ := Aside0.mk (below_drew1 HB.out)
                 clear HO_5
                 clear BK267
                 clear HB
                 have HO_5 := n0_
                 have BK267 := n1_
                 have HB := n2_
                 clear n0_ n1_ n2_
                 have p273 : 0 ≤ (x6_1 : Int) := oda
                 have q273 : x6_1 < (l0_1.length : Int) := oda
                 obtain ⟨ad273, e273, hx273_0, hx273_1, hx273_2⟩ := at_T56 HR0_1.out x6_1 p273 q273
                 have hw273_2 := hx273_2
                 have hw273_1 := hx273_1
                 have hw273_0 := hx273_0
                 cases e273
                 try replace hx273_0 := bct HB.out hx273_0
                 try replace hx273_1 := bct HB.out hx273_1
                 try replace hx273_2 := bct HB.out hx273_2
                 replace p273 := eq_true p273
                 replace q273 := eq_true q273
                 have p274 : 0 ≤ (x6_1 : Int) := oda
                 have q274 : x6_1 < (l0_1.length : Int) := oda
                 obtain ⟨ad274, e274, hx274_0, hx274_1, hx274_2⟩ := at_T56 HR0_1.out x6_1 p274 q274
                 have hw274_2 := hx274_2
                 have hw274_1 := hx274_1
                 have hw274_0 := hx274_0
                 obtain rfl : ad273 = ad274 := (by injection e274)
                 try replace hx274_0 := bct HB.out hx274_0
                 try replace hx274_1 := bct HB.out hx274_1
                 try replace hx274_2 := bct HB.out hx274_2
                 replace p274 := eq_true p274
                 replace q274 := eq_true q274
                 have p26 : 0 ≤ (((rd_T56 l0_1 x6_1).f1) : Int) := oda
                 have q26 : (((rd_T56 l0_1 x6_1).f1) : Int) < ((x5_1.length : Int) : Int) := oda
                 obtain ⟨hx26_0, hf26_0⟩ := Kd.R_celln false HO_5.out (((rd_T56 l0_1 x6_1).f1) : Int) p26 q26
                 replace p26 := eq_true p26
                 replace q26 := eq_true q26
                 have HP31 := Kd.R_putn HO_5.out (((rd_T56 l0_1 x6_1).f1) : Int) true
                 rw [← Ny275.out] at HP31
                 have HQ31 := Aside0.mk HP31
                 clear HP31
                 have p29 : 0 ≤ (((rd_T56 l0_1 x6_1).f2) : Int) := oda
                 have q29 : (((rd_T56 l0_1 x6_1).f2) : Int) < ((x5_1.length : Int) : Int) := oda
                 obtain ⟨hx29_0, hf29_0⟩ := Kd.R_celln false HQ31.out (((rd_T56 l0_1 x6_1).f2) : Int) p29 q29
                 replace p29 := eq_true p29
                 replace q29 := eq_true q29
                 have HP32 := Kd.R_putn HQ31.out (((rd_T56 l0_1 x6_1).f2) : Int) true
                 rw [← Ny276.out] at HP32
                 have HQ32 := Aside0.mk HP32
                 clear HP32
                 refine start_ (n := 18) (S := fun w' => w'.cell? ⟨gb267, 0, none⟩ = some (.int .i64 a0_0) ∧ w'.cell? ⟨gb267, 1, none⟩ = some (.slice (some ad273) l0_1.length c0_1) ∧ w'.cell? (ad273.add ((x6_1).toNat * 3)) = some (.int .i64 ((rd_T56 l0_1 x6_1).f0)) ∧ w'.cell? ⟨(ad273.add ((x6_1).toNat * 3)).block, (ad273.add ((x6_1).toNat * 3)).off + 1, none⟩ = some (.int .i64 ((rd_T56 l0_1 x6_1).f1)) ∧ w'.cell? ⟨(ad273.add ((x6_1).toNat * 3)).block, (ad273.add ((x6_1).toNat * 3)).off + 2, none⟩ = some (.int .i64 ((rd_T56 l0_1 x6_1).f2)) ∧ w'.cell? (ad273.add ((x6_1).toNat * 3)) = some (.int .i64 ((rd_T56 l0_1 x6_1).f0)) ∧ w'.cell? ⟨(ad273.add ((x6_1).toNat * 3)).block, (ad273.add ((x6_1).toNat * 3)).off + 1, none⟩ = some (.int .i64 ((rd_T56 l0_1 x6_1).f1)) ∧ w'.cell? ⟨(ad273.add ((x6_1).toNat * 3)).block, (ad273.add ((x6_1).toNat * 3)).off + 2, none⟩ = some (.int .i64 ((rd_T56 l0_1 x6_1).f2))) (ds := [15, 17]) (Pt.bm 18 0) (by kernel_rfl) rfl rfl ⟨(blk_cell BK267.out 0).trans rfl, (blk_cell BK267.out 1).trans rfl, ((HB.out.cell (World.block_lt_of_cell? w _ hw273_0)).trans hw273_0), ((HB.out.cell (World.block_lt_of_cell? w _ hw273_1)).trans hw273_1), ((HB.out.cell (World.block_lt_of_cell? w _ hw273_2)).trans hw273_2), ((HB.out.cell (World.block_lt_of_cell? w _ hw274_0)).trans hw274_0), ((HB.out.cell (World.block_lt_of_cell? w _ hw274_1)).trans hw274_1), ((HB.out.cell (World.block_lt_of_cell? w _ hw274_2)).trans hw274_2)⟩ (fun hHeld => ?_); refine with_tabW impl_Diagram_needs.tab7 impl_Diagram_needs.bits7 (fun HT_ HW_ => ?_)
                 generalize wr.drew = w30 at HO_5 BK267 HB HQ31 HQ32 hf26_0 hf29_0 hx26_0 hx273_0 hx273_1 hx273_2 hx274_0 hx274_1 hx274_2 hx29_0 hHeld ⊢
                 refine Pt.pu 0 (some 28) (Pt.bm 18 1) (any_of HT_.out (by kernel_rfl)) ?_
                 refine Pt.pu 1 (some 29) (Pt.bm 18 3) (any_of HT_.out (by kernel_rfl)) ?_
                 refine Pt.pu 3 (some 31) (Pt.bm 18 11) (any_of HT_.out (by kernel_rfl)) ?_
                 refine Pt.pu 7 (some 35) (Pt.bm 18 139) (any_of HT_.out (by kernel_rfl)) ?_
                 refine Pt.pu 8 (some 36) (Pt.bm 18 395) (any_of HT_.out (by kernel_rfl)) ?_
                 refine Pt.pu 10 (some 38) (Pt.bm 18 1419) (any_of HT_.out (by kernel_rfl)) ?_
                 refine Pt.tk 2 (some 30) (Pt.bm 18 1423) rfl rfl (take_ofW HT_.out HW_.out (by kernel_rfl)) hHeld (Or.inl ⟨by rfl, by rintro w' ⟨s0, s1, s2, s3, s4, s5, s6, s7⟩; go_simp; with_reducible rfl⟩) ?_
                 refine Pt.pu 4 (some 32) (Pt.bm 18 1439) (any_of HT_.out (by kernel_rfl)) ?_
                 refine Pt.pu 5 (some 33) (Pt.bm 18 1471) (any_of HT_.out (by kernel_rfl)) ?_
                 refine Pt.tk 6 (some 34) (Pt.bm 18 1535) rfl rfl (take_ofW HT_.out HW_.out (by kernel_rfl)) hHeld (Or.inl ⟨by rfl, by rintro w' ⟨s0, s1, s2, s3, s4, s5, s6, s7⟩; go_simp; with_reducible rfl⟩) ?_
                 refine Pt.tk 9 (some 37) (Pt.bm 18 2047) rfl rfl (take_ofW HT_.out HW_.out (by kernel_rfl)) hHeld (Or.inl ⟨by rfl, by rintro w' ⟨s0, s1, s2, s3, s4, s5, s6, s7⟩; go_simp; with_reducible rfl⟩) ?_
                 refine Pt.pu 11 (some 39) (Pt.bm 18 4095) (any_of HT_.out (by kernel_rfl)) ?_
                 refine Pt.pu 12 (some 40) (Pt.bm 18 8191) (any_of HT_.out (by kernel_rfl)) ?_
                 refine Pt.tk 13 (some 41) (Pt.bm 18 16383) rfl rfl (take_ofW HT_.out HW_.out (by kernel_rfl)) hHeld (Or.inl ⟨by rfl, by rintro w' ⟨s0, s1, s2, s3, s4, s5, s6, s7⟩; go_simp; with_reducible rfl⟩) ?_
                 refine Pt.pu 14 (some 42) (Pt.bm 18 32767) (any_of HT_.out (by kernel_rfl)) ?_
                 refine last_ (i := 15) (N := none) (Pt.bm 18 65535) rfl rfl (one_of HT_.out (by kernel_rfl)) (by decide) (fun K hK => ?_)
                 refine skip_ (w1 := ?_) (by rfl) rfl ?_ ?_
                 rotate_left
                 ·go_simp
                  rfl
                 refine hK.out _ _ ?_
                 clear hK K
                 refine Pt.pu 16 (some 43) (Pt.bm 18 131071) (any_of HT_.out (by kernel_rfl)) ?_
                 refine last_ (i := 17) (N := none) (Pt.bm 18 262143) rfl rfl (one_of HT_.out (by kernel_rfl)) (by decide) (fun K hK => ?_)
                 refine skip_ (w1 := ?_) (by rfl) rfl ?_ ?_
                 rotate_left
                 ·go_simp
                  rfl
                 refine hK.out _ _ ?_
                 clear hK K
                 refine done_ (done_of HT_.out (by kernel_rfl)) ?_
                 try go_wp2
                 (try simp only [← hl5_1])
                 go_roundg k1
                 case measure => have := HK1.out; omega
                 case rel => exact ⟨(y276), (wrap64 (x6_1 - 1)), rsd, H', ⟨by have := HK1.out; omega⟩, ⟨by (try simp only [hl5_1]); (with_reducible repeat first | apply rvA | apply rvN | apply rvD); exact HQ32.out⟩, ⟨by (try simp only [hl5_1]); (with_reducible repeat first | apply bkN | apply bkD | apply bkA); refine blk_far ?_ (by have h_ := Kd.R_ne HO_5.out BK267.out (by decide); intro e_; exact h_ (by rw [e_]; rfl)) _; (with_reducible repeat first | apply bkN | apply bkD | apply bkA); refine blk_far ?_ (by have h_ := Kd.R_ne HO_5.out BK267.out (by decide); intro e_; exact h_ (by rw [e_]; rfl)) _; (with_reducible repeat first | apply bkN | apply bkD | apply bkA); exact BK267.out⟩, ⟨by repeat (first | (with_reducible first | exact HB.out | apply bwA | apply bwN | apply bwD | refine below_set ?_ GB8.out | refine below_set ?_ GB8.out | refine below_set ?_ GE267.out) | exact HB.out)⟩⟩
                ·rw [if_neg c28] at H
                 exact absurd H (by simp)
               ·rw [if_neg c27] at H
                exact absurd H (by simp)
              ·rw [if_neg c25] at H
               exact absurd H (by simp)
             ·rw [if_neg c24] at H
              exact absurd H (by simp)
            ·rw [if_neg c23] at H
             exact absurd H (by simp)
           ·rw [if_neg c22] at H
            exact absurd H (by simp)
          ·replace c21 := Bool.eq_false_iff.mpr c21
           subst c21
           have H1 : (impl_Diagram_needs.l0 k1 x5_1 (wrap64 (x6_1 - 1)) a0_0 l0_1) = some r := by rw [if_neg (show ¬ (false = true) by decide)] at H; exact H
           clear H
           have H := H1
           clear H1
           have H' := Aside0.mk H
           clear H
           have p272 : 0 ≤ ((ji17) : Int) := oda
           have q272 : (ji17) < (x5_1.length : Int) := oda
           obtain ⟨ad272, e272, hx272_0⟩ := Kd.at_bool (Kd.R_reads' HO_5.out).2.2 (ji17) p272 q272
           (try rw [← Nbq20.out] at hx272_0)
           obtain rfl : (⟨go8, 0, none⟩ : Addr) = ad272 := (by injection e272)
           (first | simp only [add_plain] at hx272_0 | simp only [add_at] at hx272_0 | simp only [Addr.add, Nat.zero_add] at hx272_0 | skip)
           replace p272 := eq_true p272
           replace q272 := eq_true q272
           go_wp2
           (try simp only [← hl5_1])
           go_roundg k1
           case measure => have := HK1.out; omega
           case rel => exact ⟨(x5_1), (wrap64 (x6_1 - 1)), rsd, H', ⟨by have := HK1.out; omega⟩, ⟨by (try simp only [hl5_1]); (with_reducible repeat first | apply rvA | apply rvN | apply rvD); exact HO_5.out⟩, ⟨by (try simp only [hl5_1]); (with_reducible repeat first | apply bkN | apply bkD | apply bkA); exact BK267.out⟩, ⟨by repeat (first | (with_reducible first | exact HB.out | apply bwA | apply bwN | apply bwD | refine below_set ?_ GE267.out) | exact HB.out)⟩⟩
         ·rw [if_neg c19] at H
          exact absurd H (by simp)
        ·rw [if_neg c18] at H
         exact absurd H (by simp)
       ·rw [if_neg c16] at H
        have c16b0 : decide (0 ≤ x6_1) = false := decide_eq_false c16
        clear c16
        obtain rfl := Option.some.inj H
        go_wp2
        go_ret
        exact ⟨_, by first | rfl | (simp [errW_none, errW_some] <;> rfl) | (simp only [← hji3]; first | rfl | (simp [errW_none, errW_some] <;> rfl)) | (simp [*, errW_none, errW_some] <;> rfl), by (with_reducible repeat first | apply rvA | apply rvN | apply rvD); exact HO_5.out, by repeat (first | (with_reducible first | exact HB.out | apply bwA | apply bwN | apply bwD | refine below_set ?_ GE267.out) | exact HB.out)⟩
    ·rw [if_neg c7] at H
     exact absurd H (by simp)
   ·rw [if_neg c6] at H
    exact absurd H (by simp)
  ·rw [if_neg c5] at H
   exact absurd H (by simp)
 ·rw [if_neg c4] at H
  exact absurd H (by simp)

/-! ### impl_bit: function 134 -/
def impl_bit.f (a0 : Bool) : Option (Int) := if a0 = true then (some 1) else (some 0)
set_option maxHeartbeats 8000000 in
set_option maxRecDepth 100000 in
theorem impl_bit.calls (a0 : Bool) (r : Int) (w : World) (h : impl_bit.f a0 = some r) :
  Calls Try.prog 134 #[.bool a0] w fun e w' => e = .returned (.int .i64 r) ∧ Drawn0 w w' := by
 have H : (if a0 = true then (some 1) else (some 0)) = some r := h
 clear h
 by_cases c2 : a0 = true
 ·subst c2
  have H1 : (some 1) = some r := by rw [if_pos rfl] at H; exact H
  clear H
  have H := H1
  clear H1
  obtain rfl := Option.some.inj H
  go_enter Try.func134, Try.ntmps134
  go_wp2
  go_ret
  exact ⟨by first | rfl | (simp; done) | (simp [*]; done), by repeat (first | exact Drawn0.refl _ | apply Drawn0.step)⟩
 ·replace c2 := Bool.eq_false_iff.mpr c2
  subst c2
  have H1 : (some 0) = some r := by rw [if_neg (show ¬ (false = true) by decide)] at H; exact H
  clear H
  have H := H1
  clear H1
  obtain rfl := Option.some.inj H
  go_enter Try.func134, Try.ntmps134
  go_wp2
  go_ret
  exact ⟨by first | rfl | (simp; done) | (simp [*]; done), by repeat (first | exact Drawn0.refl _ | apply Drawn0.step)⟩

/-! ### impl_Diagram_forksOf: function 100 -/
def impl_Diagram_forksOf.l0 : Nat → Int → List Bool → Int → Int → Option (Int)
 | 0, _, _, _, _ => none
 | k + 1, x5, x11, x12, x13 => if x13 < x12 then (if 0 ≤ x13 then (if x13 < (x11.length : Int) then ((impl_bit.f (rdOf false x11 x13)).bind fun t286 => (impl_Diagram_forksOf.l0 k (wrap64 (x5 + t286)) x11 x12 (wrap64 (x13 + 1)))) else (none)) else (none)) else (some x5)
def impl_Diagram_forksOf.f (k : Nat) (a0_0 : Int) (l0_1 : List (S56)) (a1 : Int) : Option (Int) := (impl_Diagram_needs.f k a0_0 l0_1 a1).bind fun t278 => (if 2 ≤ (t278.length : Int) then ((some (t278.drop 2 : List Bool)).bind fun y281 => (impl_Diagram_forksOf.l0 k 0 y281 (y281.length : Int) 0)) else (none))
theorem impl_Diagram_forksOf.mono_l : ∀ k, (∀ y0 y1 y2 y3, LeO (impl_Diagram_forksOf.l0 k y0 y1 y2 y3) (impl_Diagram_forksOf.l0 (k + 1) y0 y1 y2 y3))
 | 0 => fun _ _ _ _ r h => by simp [impl_Diagram_forksOf.l0] at h
 | k + 1 => by
  have ih0 := impl_Diagram_forksOf.mono_l k
  ·intro y0 y1 y2 y3
   unfold impl_Diagram_forksOf.l0
   repeat' first
   | (with_reducible exact ih0 _ _ _ _)
   | (with_reducible exact impl_Diagram_needs.mono _ _ _ _)
   | (with_reducible exact LeO.refl _)
   | (with_reducible exact LeO.none _)
   | (with_reducible refine LeO.ite ?_ ?_)
   | (with_reducible refine LeO.bind ?_ (fun _ => ?_))
theorem impl_Diagram_forksOf.mono : ∀ a0 a1 a2 k, LeO (impl_Diagram_forksOf.f k a0 a1 a2) (impl_Diagram_forksOf.f (k + 1) a0 a1 a2) := by
 intro a0 a1 a2 k
 have ih0 := impl_Diagram_forksOf.mono_l k
 unfold impl_Diagram_forksOf.f
 repeat' first
   | (with_reducible exact ih0 _ _ _ _)
   | (with_reducible exact impl_Diagram_needs.mono _ _ _ _)
   | (with_reducible exact LeO.refl _)
   | (with_reducible exact LeO.none _)
   | (with_reducible refine LeO.ite ?_ ?_)
   | (with_reducible refine LeO.bind ?_ (fun _ => ?_))
set_option maxHeartbeats 8000000 in
set_option maxRecDepth 100000 in
theorem impl_Diagram_forksOf.calls (k : Nat) (a0_0 : Int) (A0_1 : Option Addr) (c0_1 : Nat) (l0_1 : List (S56)) (a1 : Int) (r : Int) (w : World) (hr0_1 : Kd.C k56 w A0_1 l0_1.length l0_1) (hc0_1 : l0_1.length ≤ c0_1) (h : impl_Diagram_forksOf.f k a0_0 l0_1 a1 = some r) :
  Calls Try.prog 100 #[.agg #[.int .i64 a0_0, .slice A0_1 l0_1.length c0_1], .int .i64 a1] w fun e w' => e = .returned (.int .i64 r) ∧ Below w.heap.size w w' := by
 have hu48 := Try.underlying48
 have HR0_1 := Aside0.mk hr0_1
 have HC0_1 := Aside0.mk hc0_1
 clear hr0_1 hc0_1
 have HB := Aside0.mk (Below.refl w.heap.size w)
 have H : ((impl_Diagram_needs.f k a0_0 l0_1 a1).bind fun t278 => (if 2 ≤ (t278.length : Int) then ((some (t278.drop 2 : List Bool)).bind fun y281 => (impl_Diagram_forksOf.l0 k 0 y281 (y281.length : Int) 0)) else (none))) = some r := h
 clear h
 replace H := Option.bind_eq_some_iff.mp H
 obtain ⟨t278, A30, H⟩ := H
 replace H : (if 2 ≤ (t278.length : Int) then ((some (t278.drop 2 : List Bool)).bind fun y281 => (impl_Diagram_forksOf.l0 k 0 y281 (y281.length : Int) 0)) else (none)) = some r := H
 have A3 := Aside0.mk A30
 clear A30
 by_cases c4 : 2 ≤ (t278.length : Int)
 ·rw [if_pos c4] at H
  have c4b0 := eq_true c4
  have c4b1 : decide (2 ≤ (t278.length : Int)) = true := decide_eq_true c4
  clear c4
  obtain ⟨y281, hy281⟩ : ∃ y_ : List Bool, y_ = (t278.drop 2) := ⟨_, rfl⟩
  replace H : (impl_Diagram_forksOf.l0 k 0 y281 (y281.length : Int) 0) = some r := by first | (rw [hy281]; with_reducible exact H) | (have H2_ := (Option.bind_some _ _).symm.trans H; rw [hy281]; with_reducible exact H2_) | (have H2_ := (Option.bind_some _ _).symm.trans H; with_reducible exact H2_) | with_reducible exact H | (rw [hy281]; exact H) | exact H
  have Ny281 := Aside0.mk hy281
  clear hy281
  have H' := Aside0.mk H
  clear H
  go_enter Try.func100, Try.ntmps100
  go_wp2_with (first | ((with_reducible refine gate_dst (N := 2) rfl ?_); refine box_event ?hg (N := 2) ?hd (cs := #[.int .i64 a0_0, .slice A0_1 l0_1.length c0_1]) (t := 48) ?hr ?_; (case hd => rfl); (case hg => rfl); (case hr => first | (go_simp; done) | (go_simp; rfl)); intro gb277 hg w5 hbox hb; have n0_ := Aside0.mk (below_step (by repeat (first | (with_reducible first | exact HB.out | apply bwA | apply bwN | apply bwD) | exact HB.out)) hb); have n1_ := Aside0.mk (hbox); have n2_ := Aside0.mk ((by rw [hg]; exact (below_size (by repeat (first | (with_reducible first | exact HB.out | apply bwA | apply bwN | apply bwD) | exact HB.out))) : w.heap.size ≤ gb277)); have n3_ := Aside0.mk ((by rw [hg]; exact (below_size (by repeat (first | (with_reducible first | exact HB.out | apply bwA | apply bwN | apply bwD) | exact HB.out))) : w.heap.size ≤ gb277)); clear HB; have HB := n0_; have BK277 := n1_; have GW277 := n2_; have GE277 := n3_; clear n0_ n1_ n2_ n3_; clear hb hbox hg; have hcz6_0 : w5.cell? ⟨gb277, 0, none⟩ = some (.int .i64 a0_0) := (blk_cell BK277.out 0).trans rfl; have hcz6_1 : w5.cell? ⟨gb277, 1, none⟩ = some (.slice A0_1 l0_1.length c0_1) := (blk_cell BK277.out 1).trans rfl; have hfz6_0 := blk_frozen BK277.out 0; have hfz6_1 := blk_frozen BK277.out 1) | ((with_reducible refine gate_callee (f := 133) rfl ?_); refine goesL_ (some 10) rfl rfl Try.func133 (by kernel_rfl) rfl #[.agg #[.int .i64 a0_0, .slice A0_1 l0_1.length c0_1], .int .i64 a1] rfl lmB ?_; (with_reducible refine (impl_Diagram_needs.calls k a0_0 _ _ l0_1 a1 t278 _ ?side1 ?side2 A3.out).mono ?_); (case side1 => repeat (first | exact (Kd.C_below HR0_1.out HB.out) | (with_reducible refine Kd.C_alloc ?_ _) | (with_reducible refine Kd.C_drewN ?_ _) | (with_reducible refine Kd.C_drew ?_))); (case side2 => exact HC0_1.out); rintro e w7 ⟨v279, rfl, ho0, hb⟩; refine ⟨_, rfl, ?_⟩; have n0_ := Aside0.mk (Kd.R_lower ho0 (below_size (by repeat (first | (with_reducible first | exact HB.out | apply bwA | apply bwN | apply bwD | refine below_set ?_ GE277.out) | exact HB.out)))); have n1_ := Aside0.mk (blk_below (g := gb277) (o := .cells #[.int .i64 a0_0, .slice A0_1 l0_1.length c0_1] 48 (0, 0)) (bvK BK277.out) hb); have n2_ := Aside0.mk (below_step (by repeat (first | (with_reducible first | exact HB.out | apply bwA | apply bwN | apply bwD | refine below_set ?_ GE277.out) | exact HB.out)) hb); clear BK277; clear HB; have HO280 := n0_; have BK277 := n1_; have HB := n2_; clear n0_ n1_ n2_; (try clear hb); (try clear hb2); (try clear hk); (try clear hi); (try clear ho0); obtain ⟨Ao9, co9, eo9⟩ := Kd.R_slice HO280.out; subst eo9; have q8 : (2 : Int) ≤ ((t278.length : Int) : Int) := oda; obtain ⟨i08, hi08, _, hsz8, _⟩ := info_parts info4; have hroom8 : t278.length ≤ co9 := (Kd.R_reads' HO280.out).2.1; have hC8 : Kd.C Kd.bool _ Ao9 t278.length t278 := (Kd.R_reads' HO280.out).2.2; have hcut8 := cut_from (P := Try.prog) 99 4 .i64 Try.underlying99 hi08 1 hsz8 Ao9 t278.length co9 2 (by omega) q8; have hr8 := Kd.C_drop (m := (2 : Int).toNat) (c := co9) hC8 (by omega) hroom8; obtain ⟨A8, hA8⟩ : ∃ A1, A1 = (if co9 = (2 : Int).toNat then Ao9 else (Ao9 : Option Addr).map (·.add ((2 : Int).toNat * 1))) := ⟨_, rfl⟩; obtain ⟨c8, hc8⟩ : ∃ c1, c1 = co9 - (2 : Int).toNat := ⟨_, rfl⟩; have hy8 : y281.length = t278.length - (2 : Int).toNat := (by rw [Ny281.out, List.length_drop] <;> omega); rw [show (t278).drop (2 : Int).toNat = y281 from Ny281.out.symm] at hr8; replace hr8 : Kd.C Kd.bool _ A8 y281.length y281 := (by rw [hA8]; exact hr8); rw [← hy8, ← hA8, ← hc8] at hcut8; have HR284 := Aside0.mk hr8; have HC284 := Aside0.mk (show y281.length ≤ c8 from by rw [hy8, hc8]; exact Nat.sub_le_sub_right hroom8 _); clear hr8 hC8 hroom8 hi08 hsz8 hc8; have KY8 := Aside0.mk hy8; have KA8 := Aside0.mk hA8; clear hy8 hA8; have KL8 := Aside0.mk (show 2 ≤ t278.length from by omega); replace q8 := eq_true q8))
  go_loopg [5, 13] k (fun kq v5 v13 w' => ∃ (x5_1 : Int) (x13_1 : Int), v5 = .int .i64 x5_1 ∧ v13 = .int .i64 x13_1 ∧ Aside0 (impl_Diagram_forksOf.l0 kq x5_1 y281 (y281.length : Int) x13_1 = some r) ∧ Aside0 (kq ≤ k) ∧ Aside0 (w'.heap[gb277]? = some (.cells #[.int .i64 a0_0, (.slice A0_1 l0_1.length c0_1)] 48 (0, 0))) ∧ Aside0 (Kd.C Kd.bool w' A8 y281.length y281) ∧ Aside0 (Below w.heap.size w w'))
  case atStart => exact ⟨(0), (0), rsd, rsd, H', ⟨Nat.le_refl _⟩, ⟨bvK BK277.out⟩, ⟨by repeat (first | (with_reducible exact HR284.out) | (with_reducible refine Kd.C_alloc ?_ _) | (with_reducible refine Kd.C_drewN ?_ _) | (with_reducible refine Kd.C_drew ?_) | exact HR284.out)⟩, ⟨by repeat (first | (with_reducible first | exact HB.out | apply bwA | apply bwN | apply bwD | refine below_set ?_ GE277.out) | exact HB.out)⟩⟩
  case round =>
   clear H'
   try clear c1
   try clear p2
   try clear c4
   try clear c4b0
   try clear c4b1
   try clear c8
   try clear q8
   try clear hcz6_0
   try clear hcz6_1
   try clear hfz6_0
   try clear hfz6_1
   try clear q8
   obtain ⟨x5_1, x13_1, rfl, rfl, HA, HK1, BK277, HR284, HB⟩ := hrel
   cases gk with
   | zero => exact absurd HA.out (by simp [impl_Diagram_forksOf.l0])
   | succ k1 =>
    have H := HA.out
    clear HA
    simp only [impl_Diagram_forksOf.l0] at H
    by_cases c10 : x13_1 < (y281.length : Int)
    ·rw [if_pos c10] at H
     have c10b0 : decide (x13_1 < (y281.length : Int)) = true := decide_eq_true c10
     clear c10
     by_cases c11 : 0 ≤ x13_1
     ·rw [if_pos c11] at H
      have c11b0 : decide (0 ≤ x13_1) = true := decide_eq_true c11
      clear c11
      by_cases c12 : x13_1 < (y281.length : Int)
      ·rw [if_pos c12] at H
       have c12b0 : decide (x13_1 < (y281.length : Int)) = true := decide_eq_true c12
       clear c12
       replace H := Option.bind_eq_some_iff.mp H
       obtain ⟨t286, A130, H⟩ := H
       replace H : (impl_Diagram_forksOf.l0 k1 (wrap64 (x5_1 + t286)) y281 (y281.length : Int) (wrap64 (x13_1 + 1))) = some r := H
       have A13 := Aside0.mk A130
       clear A130
       have H' := Aside0.mk H
       clear H
       have p285 : 0 ≤ (x13_1 : Int) := oda
       have q285 : x13_1 < (y281.length : Int) := oda
       obtain ⟨ad285, e285, hx285_0⟩ := Kd.at_bool HR284.out x13_1 p285 q285
       cases e285
       try replace hx285_0 := bct HB.out hx285_0
       replace p285 := eq_true p285
       replace q285 := eq_true q285
       go_wp2_with (first | ((with_reducible refine gate_callee (f := 134) rfl ?_); refine goesL_ (some 19) rfl rfl Try.func134 (by kernel_rfl) rfl #[.bool (rdOf false y281 x13_1)] rfl lmB ?_; (with_reducible refine (impl_bit.calls (rdOf false y281 x13_1) t286 _ A13.out).mono ?_); rintro e w' ⟨rfl, ⟨nd, rfl⟩⟩; refine ⟨_, rfl, ?_⟩))
       go_roundg k1
       case measure => have := HK1.out; omega
       case rel => exact ⟨(wrap64 (x5_1 + t286)), (wrap64 (x13_1 + 1)), rsd, rsd, H', ⟨by have := HK1.out; omega⟩, ⟨bvK BK277.out⟩, ⟨by repeat (first | (with_reducible exact HR284.out) | (with_reducible refine Kd.C_alloc ?_ _) | (with_reducible refine Kd.C_drewN ?_ _) | (with_reducible refine Kd.C_drew ?_) | exact HR284.out)⟩, ⟨by repeat (first | (with_reducible first | exact HB.out | apply bwA | apply bwN | apply bwD | refine below_set ?_ GE277.out) | exact HB.out)⟩⟩
      ·rw [if_neg c12] at H
       exact absurd H (by simp)
     ·rw [if_neg c11] at H
      exact absurd H (by simp)
    ·rw [if_neg c10] at H
     have c10b0 : decide (x13_1 < (y281.length : Int)) = false := decide_eq_false c10
     clear c10
     obtain rfl := Option.some.inj H
     go_wp2
     go_ret
     exact ⟨ers, by repeat (first | (with_reducible first | exact HB.out | apply bwA | apply bwN | apply bwD | refine below_set ?_ GE277.out) | exact HB.out)⟩
 ·rw [if_neg c4] at H
  exact absurd H (by simp)

/-! ### impl_ForksOf: function 43 -/
def impl_ForksOf.f (k : Nat) (a0_0 : Int) (l0_1 : List (S56)) (a1 : Int) : Option (Int) := (impl_DiagramValid.f a0_0 l0_1).bind fun t288 => (if t288 = true then ((impl_Diagram_isPlace.f a0_0 l0_1 a1).bind fun t289 => (if t289 = true then ((impl_Diagram_forksOf.f k a0_0 l0_1 a1).bind fun t290 => (some t290)) else (some (-1)))) else (some (-1)))
theorem impl_ForksOf.mono : ∀ a0 a1 a2 k, LeO (impl_ForksOf.f k a0 a1 a2) (impl_ForksOf.f (k + 1) a0 a1 a2) := by
 intro a0 a1 a2 k
 unfold impl_ForksOf.f
 repeat' first
   | (with_reducible exact impl_Diagram_forksOf.mono _ _ _ _)
   | (with_reducible exact LeO.refl _)
   | (with_reducible exact LeO.none _)
   | (with_reducible refine LeO.ite ?_ ?_)
   | (with_reducible refine LeO.bind ?_ (fun _ => ?_))
set_option maxHeartbeats 8000000 in
set_option maxRecDepth 100000 in
theorem impl_ForksOf.calls (k : Nat) (a0_0 : Int) (A0_1 : Option Addr) (c0_1 : Nat) (l0_1 : List (S56)) (a1 : Int) (r : Int) (w : World) (hr0_1 : Kd.C k56 w A0_1 l0_1.length l0_1) (hc0_1 : l0_1.length ≤ c0_1) (h : impl_ForksOf.f k a0_0 l0_1 a1 = some r) :
  Calls Try.prog 43 #[.agg #[.int .i64 a0_0, .slice A0_1 l0_1.length c0_1], .int .i64 a1] w fun e w' => e = .returned (.int .i64 r) ∧ Below w.heap.size w w' := by
 have hu48 := Try.underlying48
 have HR0_1 := Aside0.mk hr0_1
 have HC0_1 := Aside0.mk hc0_1
 clear hr0_1 hc0_1
 have HB := Aside0.mk (Below.refl w.heap.size w)
 have H : ((impl_DiagramValid.f a0_0 l0_1).bind fun t288 => (if t288 = true then ((impl_Diagram_isPlace.f a0_0 l0_1 a1).bind fun t289 => (if t289 = true then ((impl_Diagram_forksOf.f k a0_0 l0_1 a1).bind fun t290 => (some t290)) else (some (-1)))) else (some (-1)))) = some r := h
 clear h
 replace H := Option.bind_eq_some_iff.mp H
 obtain ⟨t288, A30, H⟩ := H
 replace H : (if t288 = true then ((impl_Diagram_isPlace.f a0_0 l0_1 a1).bind fun t289 => (if t289 = true then ((impl_Diagram_forksOf.f k a0_0 l0_1 a1).bind fun t290 => (some t290)) else (some (-1)))) else (some (-1))) = some r := H
 have A3 := Aside0.mk A30
 clear A30
 by_cases c4 : t288 = true
 ·subst c4
  have H1 : ((impl_Diagram_isPlace.f a0_0 l0_1 a1).bind fun t289 => (if t289 = true then ((impl_Diagram_forksOf.f k a0_0 l0_1 a1).bind fun t290 => (some t290)) else (some (-1)))) = some r := by rw [if_pos rfl] at H; exact H
  clear H
  have H := H1
  clear H1
  replace H := Option.bind_eq_some_iff.mp H
  obtain ⟨t289, A50, H⟩ := H
  replace H : (if t289 = true then ((impl_Diagram_forksOf.f k a0_0 l0_1 a1).bind fun t290 => (some t290)) else (some (-1))) = some r := H
  have A5 := Aside0.mk A50
  clear A50
  by_cases c6 : t289 = true
  ·subst c6
   have H1 : ((impl_Diagram_forksOf.f k a0_0 l0_1 a1).bind fun t290 => (some t290)) = some r := by rw [if_pos rfl] at H; exact H
   clear H
   have H := H1
   clear H1
   replace H := Option.bind_eq_some_iff.mp H
   obtain ⟨t290, A70, H⟩ := H
   replace H : (some t290) = some r := H
   have A7 := Aside0.mk A70
   clear A70
   obtain rfl := Option.some.inj H
   go_enter Try.func43, Try.ntmps43
   go_wp2_with (first | ((with_reducible refine gate_dst (N := 2) rfl ?_); refine box_event ?hg (N := 2) ?hd (cs := #[.int .i64 a0_0, .slice A0_1 l0_1.length c0_1]) (t := 48) ?hr ?_; (case hd => rfl); (case hg => rfl); (case hr => first | (go_simp; done) | (go_simp; rfl)); intro gb287 hg w8 hbox hb; have n0_ := Aside0.mk (below_step (by repeat (first | (with_reducible first | exact HB.out | apply bwA | apply bwN | apply bwD) | exact HB.out)) hb); have n1_ := Aside0.mk (hbox); have n2_ := Aside0.mk ((by rw [hg]; exact (below_size (by repeat (first | (with_reducible first | exact HB.out | apply bwA | apply bwN | apply bwD) | exact HB.out))) : w.heap.size ≤ gb287)); have n3_ := Aside0.mk ((by rw [hg]; exact (below_size (by repeat (first | (with_reducible first | exact HB.out | apply bwA | apply bwN | apply bwD) | exact HB.out))) : w.heap.size ≤ gb287)); clear HB; have HB := n0_; have BK287 := n1_; have GW287 := n2_; have GE287 := n3_; clear n0_ n1_ n2_ n3_; clear hb hbox hg; have hcz9_0 : w8.cell? ⟨gb287, 0, none⟩ = some (.int .i64 a0_0) := (blk_cell BK287.out 0).trans rfl; have hcz9_1 : w8.cell? ⟨gb287, 1, none⟩ = some (.slice A0_1 l0_1.length c0_1) := (blk_cell BK287.out 1).trans rfl; have hfz9_0 := blk_frozen BK287.out 0; have hfz9_1 := blk_frozen BK287.out 1) | ((with_reducible refine gate_callee (f := 44) rfl ?_); refine goesL_ (some 6) rfl rfl Try.func44 (by kernel_rfl) rfl #[.agg #[.int .i64 a0_0, .slice A0_1 l0_1.length c0_1]] rfl lmB ?_; (with_reducible refine (impl_DiagramValid.calls a0_0 _ _ l0_1 true _ ?side1 ?side2 A3.out).mono ?_); (case side1 => repeat (first | exact (Kd.C_below HR0_1.out HB.out) | (with_reducible refine Kd.C_alloc ?_ _) | (with_reducible refine Kd.C_drewN ?_ _) | (with_reducible refine Kd.C_drew ?_))); (case side2 => exact HC0_1.out); rintro e w10 ⟨rfl, hb⟩; refine ⟨_, rfl, ?_⟩; have n0_ := Aside0.mk (blk_below (g := gb287) (o := .cells #[.int .i64 a0_0, .slice A0_1 l0_1.length c0_1] 48 (0, 0)) (bvK BK287.out) hb); have n1_ := Aside0.mk (below_step (by repeat (first | (with_reducible first | exact HB.out | apply bwA | apply bwN | apply bwD | refine below_set ?_ GE287.out) | exact HB.out)) hb); clear BK287; clear HB; have BK287 := n0_; have HB := n1_; clear n0_ n1_; (try clear hb); (try clear hb2); (try clear hk); (try clear hi); have hcz11_0 : w10.cell? ⟨gb287, 0, none⟩ = some (.int .i64 a0_0) := (blk_cell BK287.out 0).trans rfl; have hcz11_1 : w10.cell? ⟨gb287, 1, none⟩ = some (.slice A0_1 l0_1.length c0_1) := (blk_cell BK287.out 1).trans rfl; have hfz11_0 := blk_frozen BK287.out 0; have hfz11_1 := blk_frozen BK287.out 1) | (go_at_call 85; (with_reducible refine (impl_Diagram_isPlace.calls a0_0 _ _ l0_1 a1 true _ ?side1 ?side2 A5.out).mono ?_); (case side1 => repeat (first | exact (Kd.C_below HR0_1.out HB.out) | (with_reducible refine Kd.C_alloc ?_ _) | (with_reducible refine Kd.C_drewN ?_ _) | (with_reducible refine Kd.C_drew ?_))); (case side2 => exact HC0_1.out); rintro e w12 ⟨rfl, hb⟩; have n0_ := Aside0.mk (blk_below (g := gb287) (o := .cells #[.int .i64 a0_0, .slice A0_1 l0_1.length c0_1] 48 (0, 0)) (bvK BK287.out) hb); have n1_ := Aside0.mk (below_step (by repeat (first | (with_reducible first | exact HB.out | apply bwA | apply bwN | apply bwD | refine below_set ?_ GE287.out) | exact HB.out)) hb); clear BK287; clear HB; have BK287 := n0_; have HB := n1_; clear n0_ n1_; (try clear hb); (try clear hb2); (try clear hk); (try clear hi); have hcz13_0 : w12.cell? ⟨gb287, 0, none⟩ = some (.int .i64 a0_0) := (blk_cell BK287.out 0).trans rfl; have hcz13_1 : w12.cell? ⟨gb287, 1, none⟩ = some (.slice A0_1 l0_1.length c0_1) := (blk_cell BK287.out 1).trans rfl; have hfz13_0 := blk_frozen BK287.out 0; have hfz13_1 := blk_frozen BK287.out 1) | ((with_reducible refine gate_callee (f := 100) rfl ?_); refine goesL_ (some 16) rfl rfl Try.func100 (by kernel_rfl) rfl #[.agg #[.int .i64 a0_0, .slice A0_1 l0_1.length c0_1], .int .i64 a1] rfl lmB ?_; (with_reducible refine (impl_Diagram_forksOf.calls k a0_0 _ _ l0_1 a1 t290 _ ?side1 ?side2 A7.out).mono ?_); (case side1 => repeat (first | exact (Kd.C_below HR0_1.out HB.out) | (with_reducible refine Kd.C_alloc ?_ _) | (with_reducible refine Kd.C_drewN ?_ _) | (with_reducible refine Kd.C_drew ?_))); (case side2 => exact HC0_1.out); rintro e w14 ⟨rfl, hb⟩; refine ⟨_, rfl, ?_⟩; have n0_ := Aside0.mk (blk_below (g := gb287) (o := .cells #[.int .i64 a0_0, .slice A0_1 l0_1.length c0_1] 48 (0, 0)) (bvK BK287.out) hb); have n1_ := Aside0.mk (below_step (by repeat (first | (with_reducible first | exact HB.out | apply bwA | apply bwN | apply bwD | refine below_set ?_ GE287.out) | exact HB.out)) hb); clear BK287; clear HB; have BK287 := n0_; have HB := n1_; clear n0_ n1_; (try clear hb); (try clear hb2); (try clear hk); (try clear hi)))
   go_ret
   exact ⟨ers, by repeat (first | (with_reducible first | exact HB.out | apply bwA | apply bwN | apply bwD | refine below_set ?_ GE287.out) | exact HB.out)⟩
  ·replace c6 := Bool.eq_false_iff.mpr c6
   subst c6
   have H1 : (some (-1)) = some r := by rw [if_neg (show ¬ (false = true) by decide)] at H; exact H
   clear H
   have H := H1
   clear H1
   obtain rfl := Option.some.inj H
   go_enter Try.func43, Try.ntmps43
   go_wp2_with (first | ((with_reducible refine gate_dst (N := 2) rfl ?_); refine box_event ?hg (N := 2) ?hd (cs := #[.int .i64 a0_0, .slice A0_1 l0_1.length c0_1]) (t := 48) ?hr ?_; (case hd => rfl); (case hg => rfl); (case hr => first | (go_simp; done) | (go_simp; rfl)); intro gb287 hg w15 hbox hb; have n0_ := Aside0.mk (below_step (by repeat (first | (with_reducible first | exact HB.out | apply bwA | apply bwN | apply bwD) | exact HB.out)) hb); have n1_ := Aside0.mk (hbox); have n2_ := Aside0.mk ((by rw [hg]; exact (below_size (by repeat (first | (with_reducible first | exact HB.out | apply bwA | apply bwN | apply bwD) | exact HB.out))) : w.heap.size ≤ gb287)); have n3_ := Aside0.mk ((by rw [hg]; exact (below_size (by repeat (first | (with_reducible first | exact HB.out | apply bwA | apply bwN | apply bwD) | exact HB.out))) : w.heap.size ≤ gb287)); clear HB; have HB := n0_; have BK287 := n1_; have GW287 := n2_; have GE287 := n3_; clear n0_ n1_ n2_ n3_; clear hb hbox hg; have hcz16_0 : w15.cell? ⟨gb287, 0, none⟩ = some (.int .i64 a0_0) := (blk_cell BK287.out 0).trans rfl; have hcz16_1 : w15.cell? ⟨gb287, 1, none⟩ = some (.slice A0_1 l0_1.length c0_1) := (blk_cell BK287.out 1).trans rfl; have hfz16_0 := blk_frozen BK287.out 0; have hfz16_1 := blk_frozen BK287.out 1) | ((with_reducible refine gate_callee (f := 44) rfl ?_); refine goesL_ (some 6) rfl rfl Try.func44 (by kernel_rfl) rfl #[.agg #[.int .i64 a0_0, .slice A0_1 l0_1.length c0_1]] rfl lmB ?_; (with_reducible refine (impl_DiagramValid.calls a0_0 _ _ l0_1 true _ ?side1 ?side2 A3.out).mono ?_); (case side1 => repeat (first | exact (Kd.C_below HR0_1.out HB.out) | (with_reducible refine Kd.C_alloc ?_ _) | (with_reducible refine Kd.C_drewN ?_ _) | (with_reducible refine Kd.C_drew ?_))); (case side2 => exact HC0_1.out); rintro e w17 ⟨rfl, hb⟩; refine ⟨_, rfl, ?_⟩; have n0_ := Aside0.mk (blk_below (g := gb287) (o := .cells #[.int .i64 a0_0, .slice A0_1 l0_1.length c0_1] 48 (0, 0)) (bvK BK287.out) hb); have n1_ := Aside0.mk (below_step (by repeat (first | (with_reducible first | exact HB.out | apply bwA | apply bwN | apply bwD | refine below_set ?_ GE287.out) | exact HB.out)) hb); clear BK287; clear HB; have BK287 := n0_; have HB := n1_; clear n0_ n1_; (try clear hb); (try clear hb2); (try clear hk); (try clear hi); have hcz18_0 : w17.cell? ⟨gb287, 0, none⟩ = some (.int .i64 a0_0) := (blk_cell BK287.out 0).trans rfl; have hcz18_1 : w17.cell? ⟨gb287, 1, none⟩ = some (.slice A0_1 l0_1.length c0_1) := (blk_cell BK287.out 1).trans rfl; have hfz18_0 := blk_frozen BK287.out 0; have hfz18_1 := blk_frozen BK287.out 1) | (go_at_call 85; (with_reducible refine (impl_Diagram_isPlace.calls a0_0 _ _ l0_1 a1 false _ ?side1 ?side2 A5.out).mono ?_); (case side1 => repeat (first | exact (Kd.C_below HR0_1.out HB.out) | (with_reducible refine Kd.C_alloc ?_ _) | (with_reducible refine Kd.C_drewN ?_ _) | (with_reducible refine Kd.C_drew ?_))); (case side2 => exact HC0_1.out); rintro e w19 ⟨rfl, hb⟩; have n0_ := Aside0.mk (blk_below (g := gb287) (o := .cells #[.int .i64 a0_0, .slice A0_1 l0_1.length c0_1] 48 (0, 0)) (bvK BK287.out) hb); have n1_ := Aside0.mk (below_step (by repeat (first | (with_reducible first | exact HB.out | apply bwA | apply bwN | apply bwD | refine below_set ?_ GE287.out) | exact HB.out)) hb); clear BK287; clear HB; have BK287 := n0_; have HB := n1_; clear n0_ n1_; (try clear hb); (try clear hb2); (try clear hk); (try clear hi)))
   go_ret
   exact ⟨ers, by repeat (first | (with_reducible first | exact HB.out | apply bwA | apply bwN | apply bwD | refine below_set ?_ GE287.out) | exact HB.out)⟩
 ·replace c4 := Bool.eq_false_iff.mpr c4
  subst c4
  have H1 : (some (-1)) = some r := by rw [if_neg (show ¬ (false = true) by decide)] at H; exact H
  clear H
  have H := H1
  clear H1
  obtain rfl := Option.some.inj H
  go_enter Try.func43, Try.ntmps43
  go_wp2_with (first | ((with_reducible refine gate_dst (N := 2) rfl ?_); refine box_event ?hg (N := 2) ?hd (cs := #[.int .i64 a0_0, .slice A0_1 l0_1.length c0_1]) (t := 48) ?hr ?_; (case hd => rfl); (case hg => rfl); (case hr => first | (go_simp; done) | (go_simp; rfl)); intro gb287 hg w20 hbox hb; have n0_ := Aside0.mk (below_step (by repeat (first | (with_reducible first | exact HB.out | apply bwA | apply bwN | apply bwD) | exact HB.out)) hb); have n1_ := Aside0.mk (hbox); have n2_ := Aside0.mk ((by rw [hg]; exact (below_size (by repeat (first | (with_reducible first | exact HB.out | apply bwA | apply bwN | apply bwD) | exact HB.out))) : w.heap.size ≤ gb287)); have n3_ := Aside0.mk ((by rw [hg]; exact (below_size (by repeat (first | (with_reducible first | exact HB.out | apply bwA | apply bwN | apply bwD) | exact HB.out))) : w.heap.size ≤ gb287)); clear HB; have HB := n0_; have BK287 := n1_; have GW287 := n2_; have GE287 := n3_; clear n0_ n1_ n2_ n3_; clear hb hbox hg; have hcz21_0 : w20.cell? ⟨gb287, 0, none⟩ = some (.int .i64 a0_0) := (blk_cell BK287.out 0).trans rfl; have hcz21_1 : w20.cell? ⟨gb287, 1, none⟩ = some (.slice A0_1 l0_1.length c0_1) := (blk_cell BK287.out 1).trans rfl; have hfz21_0 := blk_frozen BK287.out 0; have hfz21_1 := blk_frozen BK287.out 1) | ((with_reducible refine gate_callee (f := 44) rfl ?_); refine goesL_ (some 6) rfl rfl Try.func44 (by kernel_rfl) rfl #[.agg #[.int .i64 a0_0, .slice A0_1 l0_1.length c0_1]] rfl lmB ?_; (with_reducible refine (impl_DiagramValid.calls a0_0 _ _ l0_1 false _ ?side1 ?side2 A3.out).mono ?_); (case side1 => repeat (first | exact (Kd.C_below HR0_1.out HB.out) | (with_reducible refine Kd.C_alloc ?_ _) | (with_reducible refine Kd.C_drewN ?_ _) | (with_reducible refine Kd.C_drew ?_))); (case side2 => exact HC0_1.out); rintro e w22 ⟨rfl, hb⟩; refine ⟨_, rfl, ?_⟩; have n0_ := Aside0.mk (blk_below (g := gb287) (o := .cells #[.int .i64 a0_0, .slice A0_1 l0_1.length c0_1] 48 (0, 0)) (bvK BK287.out) hb); have n1_ := Aside0.mk (below_step (by repeat (first | (with_reducible first | exact HB.out | apply bwA | apply bwN | apply bwD | refine below_set ?_ GE287.out) | exact HB.out)) hb); clear BK287; clear HB; have BK287 := n0_; have HB := n1_; clear n0_ n1_; (try clear hb); (try clear hb2); (try clear hk); (try clear hi)))
  go_ret
  exact ⟨ers, by repeat (first | (with_reducible first | exact HB.out | apply bwA | apply bwN | apply bwD | refine below_set ?_ GE287.out) | exact HB.out)⟩

end Go.Proofs.Ytpcckoljocpchaa.QFnCompacted
