-- Written by a program of this session (mk.py). Lean checks it.
import Derived.Test.YtpcckoljocpchaaQFnAddPickx0
import Derived.Test.YtpcckoljocpchaaQFnAddPickx7
import Derived.Test.YtpcckoljocpchaaQFnAddPickx8
import Derived.Test.YtpcckoljocpchaaQFnAddPickx9
namespace Go.Proofs.Ytpcckoljocpchaa.QFnAddPick
open Go.RowKit Go.Proofs.YtpcckoljocpchaaW.PrintWords Go.Proofs.YtpcckoljocpchaaW.PrintLast Go.Proofs.YtpcckoljocpchaaW.PrintMore
attribute [local go_sem] max2_int min2_int max_two min_two max_three min_three max_four min_four   -- for this text's walks alone
set_option linter.unusedVariables false
set_option linter.unusedSimpArgs false

/-! ### spec_DrawAddAnd: function 66 -/
mutual
def spec_DrawAddAnd.j1 : Nat → List Int → Int → Int → List (S92) → Option (Int × (List (S92)) × Int × Int)
 | 0, _, _, _, _ => none
 | k + 1, x245000, x245001, x251000, x251001 => if (x251001.length : Int) > 0 then ((spec_l40Rd_pick.f k x245000 x245001 5).bind fun bt261 => (spec_DrawAddAnd.j2 k (bt261.1 == 0) x245000 bt261.2 x251000 x251001)) else (spec_DrawAddAnd.j2 k false x245000 x245001 x251000 x251001)
def spec_DrawAddAnd.j2 : Nat → Bool → List Int → Int → Int → List (S92) → Option (Int × (List (S92)) × Int × Int)
 | 0, _, _, _, _, _ => none
 | k + 1, x39, x245000, x245001, x251000, x251001 => if x39 = true then (if 0 < (x251001.length : Int) then (some (x251000, x251001, (rd_T92 x251001 0).f1, (rd_T92 x251001 0).f0)) else (none)) else ((spec_l7Some.f k x245000 x245001 x251000 x251001).bind fun bt265 => ((spec_l7Some.f k x245000 bt265.2 x251000 x251001).bind fun bt267 => (some (x251000, x251001, bt265.1, bt267.1))))
def spec_DrawAddAnd.l0 : Nat → List Int → Int → Int → List (S92) → Option (Int × (List (S92)) × Int × Int)
 | 0, _, _, _, _ => none
 | k + 1, x245000, x245001, x251000, x251001 => if (x251001.length : Int) < 600 then (if x251001.length < 8796093022208 then (spec_DrawAddAnd.l0 k x245000 x245001 x251000 (x251001 ++ [(⟨1, 0⟩ : S92)])) else (none)) else ((spec_l40Rd_pick.f k x245000 x245001 3).bind fun bt256 => (if bt256.1 = 0 then (if 599 ≤ (x251001.length : Int) then (spec_DrawAddAnd.j1 k x245000 bt256.2 x251000 (x251001.take (599 : Int).toNat)) else (none)) else (spec_DrawAddAnd.j1 k x245000 bt256.2 x251000 x251001)))
end
theorem spec_DrawAddAnd.l0_z (x245000 : List Int) (x245001 : Int) (x251000 : Int) (x251001 : List (S92)) : spec_DrawAddAnd.l0 0 x245000 x245001 x251000 x251001 = none := rfl
theorem spec_DrawAddAnd.l0_s (k : Nat) (x245000 : List Int) (x245001 : Int) (x251000 : Int) (x251001 : List (S92)) : spec_DrawAddAnd.l0 (k + 1) x245000 x245001 x251000 x251001 = (if (x251001.length : Int) < 600 then (if x251001.length < 8796093022208 then (spec_DrawAddAnd.l0 k x245000 x245001 x251000 (x251001 ++ [(⟨1, 0⟩ : S92)])) else (none)) else ((spec_l40Rd_pick.f k x245000 x245001 3).bind fun bt256 => (if bt256.1 = 0 then (if 599 ≤ (x251001.length : Int) then (spec_DrawAddAnd.j1 k x245000 bt256.2 x251000 (x251001.take (599 : Int).toNat)) else (none)) else (spec_DrawAddAnd.j1 k x245000 bt256.2 x251000 x251001)))) := rfl
def spec_DrawAddAnd.f (k : Nat) (l0 : List Int) : Option (Int × (List (S92)) × Int × Int) := (spec_l40Open.f l0).bind fun bt242 => ((spec_l7Any.f k bt242.1 bt242.2 5).bind fun bt245 => ((spec_l40Rd_pick.f k bt242.1 bt245.2.2 40).bind fun bt251 => (if bt251.1 = 0 then (spec_DrawAddAnd.l0 k bt242.1 bt251.2 bt245.1 bt245.2.1) else (spec_DrawAddAnd.j1 k bt242.1 bt251.2 bt245.1 bt245.2.1))))
theorem spec_DrawAddAnd.mono_l : ∀ k, (∀ y0 y1 y2 y3, LeO (spec_DrawAddAnd.j1 k y0 y1 y2 y3) (spec_DrawAddAnd.j1 (k + 1) y0 y1 y2 y3)) ∧ (∀ y0 y1 y2 y3 y4, LeO (spec_DrawAddAnd.j2 k y0 y1 y2 y3 y4) (spec_DrawAddAnd.j2 (k + 1) y0 y1 y2 y3 y4)) ∧ (∀ y0 y1 y2 y3, LeO (spec_DrawAddAnd.l0 k y0 y1 y2 y3) (spec_DrawAddAnd.l0 (k + 1) y0 y1 y2 y3))
 | 0 => ⟨fun _ _ _ _ r h => by simp [spec_DrawAddAnd.j1] at h, fun _ _ _ _ _ r h => by simp [spec_DrawAddAnd.j2] at h, fun _ _ _ _ r h => by rw [spec_DrawAddAnd.l0_z] at h; cases h⟩
 | k + 1 => by
  obtain ⟨ih0, ih1, ih2⟩ := spec_DrawAddAnd.mono_l k
  refine ⟨?_, ?_, ?_⟩
  ·intro y0 y1 y2 y3
   unfold spec_DrawAddAnd.j1
   repeat' first
   | (with_reducible exact ih0 _ _ _ _)
   | (with_reducible exact ih1 _ _ _ _ _)
   | (with_reducible exact ih2 _ _ _ _)
   | (with_reducible exact spec_l40Rd_pick.mono _ _ _ _)
   | (with_reducible exact spec_l7Any.mono _ _ _ _)
   | (with_reducible exact spec_l7Some.mono _ _ _ _ _)
   | (with_reducible exact LeO.refl _)
   | (with_reducible exact LeO.none _)
   | (with_reducible refine LeO.ite ?_ ?_)
   | (with_reducible refine LeO.bind ?_ (fun _ => ?_))
   | exact ih0 _ _ _ _
   | exact ih1 _ _ _ _ _
   | exact ih2 _ _ _ _
   | exact spec_l40Rd_pick.mono _ _ _ _
   | exact spec_l7Any.mono _ _ _ _
   | exact spec_l7Some.mono _ _ _ _ _
   | exact LeO.none _
   | refine LeO.ite ?_ ?_
   | refine LeO.bind ?_ (fun _ => ?_)
  ·intro y0 y1 y2 y3 y4
   unfold spec_DrawAddAnd.j2
   repeat' first
   | (with_reducible exact ih0 _ _ _ _)
   | (with_reducible exact ih1 _ _ _ _ _)
   | (with_reducible exact ih2 _ _ _ _)
   | (with_reducible exact spec_l40Rd_pick.mono _ _ _ _)
   | (with_reducible exact spec_l7Any.mono _ _ _ _)
   | (with_reducible exact spec_l7Some.mono _ _ _ _ _)
   | (with_reducible exact LeO.refl _)
   | (with_reducible exact LeO.none _)
   | (with_reducible refine LeO.ite ?_ ?_)
   | (with_reducible refine LeO.bind ?_ (fun _ => ?_))
   | exact ih0 _ _ _ _
   | exact ih1 _ _ _ _ _
   | exact ih2 _ _ _ _
   | exact spec_l40Rd_pick.mono _ _ _ _
   | exact spec_l7Any.mono _ _ _ _
   | exact spec_l7Some.mono _ _ _ _ _
   | exact LeO.none _
   | refine LeO.ite ?_ ?_
   | refine LeO.bind ?_ (fun _ => ?_)
  ·intro y0 y1 y2 y3
   rw [spec_DrawAddAnd.l0_s, spec_DrawAddAnd.l0_s]
   repeat' first
   | (with_reducible exact ih0 _ _ _ _)
   | (with_reducible exact ih1 _ _ _ _ _)
   | (with_reducible exact ih2 _ _ _ _)
   | (with_reducible exact spec_l40Rd_pick.mono _ _ _ _)
   | (with_reducible exact spec_l7Any.mono _ _ _ _)
   | (with_reducible exact spec_l7Some.mono _ _ _ _ _)
   | (with_reducible exact LeO.refl _)
   | (with_reducible exact LeO.none _)
   | (with_reducible refine LeO.ite ?_ ?_)
   | (with_reducible refine LeO.bind ?_ (fun _ => ?_))
   | exact ih0 _ _ _ _
   | exact ih1 _ _ _ _ _
   | exact ih2 _ _ _ _
   | exact spec_l40Rd_pick.mono _ _ _ _
   | exact spec_l7Any.mono _ _ _ _
   | exact spec_l7Some.mono _ _ _ _ _
   | exact LeO.none _
   | refine LeO.ite ?_ ?_
   | refine LeO.bind ?_ (fun _ => ?_)
theorem spec_DrawAddAnd.mono : ∀ a0 k, LeO (spec_DrawAddAnd.f k a0) (spec_DrawAddAnd.f (k + 1) a0) := by
 intro a0 k
 obtain ⟨ih0, ih1, ih2⟩ := spec_DrawAddAnd.mono_l k
 unfold spec_DrawAddAnd.f
 repeat' first
   | (with_reducible exact ih0 _ _ _ _)
   | (with_reducible exact ih1 _ _ _ _ _)
   | (with_reducible exact ih2 _ _ _ _)
   | (with_reducible exact spec_l40Rd_pick.mono _ _ _ _)
   | (with_reducible exact spec_l7Any.mono _ _ _ _)
   | (with_reducible exact spec_l7Some.mono _ _ _ _ _)
   | (with_reducible exact LeO.refl _)
   | (with_reducible exact LeO.none _)
   | (with_reducible refine LeO.ite ?_ ?_)
   | (with_reducible refine LeO.bind ?_ (fun _ => ?_))
   | exact ih0 _ _ _ _
   | exact ih1 _ _ _ _ _
   | exact ih2 _ _ _ _
   | exact spec_l40Rd_pick.mono _ _ _ _
   | exact spec_l7Any.mono _ _ _ _
   | exact spec_l7Some.mono _ _ _ _ _
   | exact LeO.none _
   | refine LeO.ite ?_ ?_
   | refine LeO.bind ?_ (fun _ => ?_)
def spec_DrawAddAnd.T9 : Bool × List (List Nat × List Nat) := (true, [([], []), ([], []), ([1], [1]), ([2], [2]), ([3], [3]), ([4], [4]), ([], []), ([6], [6]), ([7], [7]), ([8], [8]), ([9], [9]), ([0, 0], [0]), ([5, 11, 0, 1, 2, 3, 4, 5, 11], [5]), ([10, 12, 0, 1, 2, 3, 4, 5, 6, 7, 8, 9, 10, 11, 12], [10])])
def spec_DrawAddAnd.B9 : List Nat := [0, 0, 2, 6, 14, 30, 0, 64, 192, 448, 960, 1, 2111, 8191]
theorem spec_DrawAddAnd.tab9 : rtab .any (opsOf Try.f66 9) = spec_DrawAddAnd.T9 := by kernel_rfl
theorem spec_DrawAddAnd.bits9 : waitsOk spec_DrawAddAnd.T9.2 spec_DrawAddAnd.B9 = true := by kernel_rfl
def spec_DrawAddAnd.T10 : Bool × List (List Nat × List Nat) := (true, [([], []), ([], []), ([], []), ([1, 2], [1, 2]), ([], []), ([], []), ([4, 5, 3], [4, 5]), ([0, 6, 0], [0]), ([3, 7, 0, 1, 2, 3, 7], [3]), ([6, 8, 0, 1, 2, 3, 4, 5, 6, 7, 8], [6])])
def spec_DrawAddAnd.B10 : List Nat := [0, 0, 0, 6, 0, 0, 62, 127, 255, 511]
theorem spec_DrawAddAnd.tab10 : rtab .any (opsOf Try.f66 10) = spec_DrawAddAnd.T10 := by kernel_rfl
theorem spec_DrawAddAnd.bits10 : waitsOk spec_DrawAddAnd.T10.2 spec_DrawAddAnd.B10 = true := by kernel_rfl
set_option maxHeartbeats 8000000 in
set_option maxRecDepth 100000 in
theorem spec_DrawAddAnd.calls (k : Nat) (A0 : Option Addr) (c0 : Nat) (l0 : List Int) (r1 : Int) (r2 : List (S92)) (r3 : Int) (r4 : Int) (w : World) (hr0 : Kd.C (Kd.int .u8) w A0 l0.length l0) (hc0 : l0.length ≤ c0) (h : spec_DrawAddAnd.f k l0 = some (r1, r2, r3, r4)) :
  Calls Try.prog 66 #[.slice A0 l0.length c0] w fun e w' => ∃ v1_ : Value, e = .returned (.tuple #[.agg #[.int .i64 r1, v1_], .int .i64 r3, .int .i64 r4]) ∧ Kd.R k92 92 w' w.heap.size (fun _ => True) v1_ r2 ∧ Below w.heap.size w w' := by
 have hu28 := Try.underlying28
 have hu92 := Try.underlying92
 have HR0 := Aside0.mk hr0
 have HC0 := Aside0.mk hc0
 clear hr0 hc0
 have HB := Aside0.mk (Below.refl w.heap.size w)
 have H : ((spec_l40Open.f l0).bind fun bt242 => ((spec_l7Any.f k bt242.1 bt242.2 5).bind fun bt245 => ((spec_l40Rd_pick.f k bt242.1 bt245.2.2 40).bind fun bt251 => (if bt251.1 = 0 then (spec_DrawAddAnd.l0 k bt242.1 bt251.2 bt245.1 bt245.2.1) else (spec_DrawAddAnd.j1 k bt242.1 bt251.2 bt245.1 bt245.2.1))))) = some (r1, r2, r3, r4) := h
 clear h
 replace H := Option.bind_eq_some_iff.mp H
 obtain ⟨⟨t242, t243⟩, A20, H⟩ := H
 replace H : ((spec_l7Any.f k t242 t243 5).bind fun bt245 => ((spec_l40Rd_pick.f k t242 bt245.2.2 40).bind fun bt251 => (if bt251.1 = 0 then (spec_DrawAddAnd.l0 k t242 bt251.2 bt245.1 bt245.2.1) else (spec_DrawAddAnd.j1 k t242 bt251.2 bt245.1 bt245.2.1)))) = some (r1, r2, r3, r4) := H
 have A2 := Aside0.mk A20
 clear A20
 replace H := Option.bind_eq_some_iff.mp H
 obtain ⟨⟨t245, t246, t249⟩, A30, H⟩ := H
 replace H : ((spec_l40Rd_pick.f k t242 t249 40).bind fun bt251 => (if bt251.1 = 0 then (spec_DrawAddAnd.l0 k t242 bt251.2 t245 t246) else (spec_DrawAddAnd.j1 k t242 bt251.2 t245 t246))) = some (r1, r2, r3, r4) := H
 have A3 := Aside0.mk A30
 clear A30
 replace H := Option.bind_eq_some_iff.mp H
 obtain ⟨⟨t251, t252⟩, A40, H⟩ := H
 replace H : (if t251 = 0 then (spec_DrawAddAnd.l0 k t242 t252 t245 t246) else (spec_DrawAddAnd.j1 k t242 t252 t245 t246)) = some (r1, r2, r3, r4) := H
 have A4 := Aside0.mk A40
 clear A40
 have HC5 := Aside0.mk H
 clear H
 go_enter Try.func66, Try.ntmps66
 go_upto_if 13 with (first | ((with_reducible refine gate_dst (N := 2) rfl ?_); refine box_event ?hg (N := 2) ?hd (cs := #[.int .i64 0, .slice none 0 0]) (t := 28) ?hr ?_; (case hd => rfl); (case hg => rfl); (case hr => first | (go_simp; done) | (go_simp; rfl)); intro gb241 hg w6 hbox hb; have n0_ := Aside0.mk (below_step hbB hb); have n1_ := Aside0.mk (hbox); have n2_ := Aside0.mk ((gwb hg (below_size hbB) : w.heap.size ≤ gb241)); have n3_ := n2_; clear HB; have HB := n0_; have BK241 := n1_; have GW241 := n2_; have GE241 := n3_; clear n0_ n1_ n2_ n3_; clear hb hbox hg) | ((with_reducible refine gate_callee (f := 67) rfl ?_); refine goesL_ (some 8) rfl rfl Try.func67 (by kernel_rfl) rfl #[.slice A0 l0.length c0] rfl lmB ?_; (with_reducible refine (spec_l40Open.calls _ _ l0 t242 t243 w _ ?side1 ?side2 ?side3 A2.out).mono ?_); (case side1 => repeat (first | (with_reducible first | exact HB.out | apply bwA | apply bwN | apply bwD | refine below_set ?_ GE241.out) | exact HB.out)); (case side2 => exact HR0.out); (case side3 => exact HC0.out); rintro e w7 ⟨g244, rfl, hi, hb, hb2⟩; refine ⟨_, rfl, ?_⟩; have n0_ := Aside0.mk (blk_below (g := gb241) (o := .cells #[.int .i64 0, .slice none 0 0] 28 (0, 0)) (bvK BK241.out) hb2); have n1_ := Aside0.mk (hb); have n2_ := Aside0.mk (hi); have n3_ := Aside0.mk (IsS121.ne_blk hi (blk_below (g := gb241) (o := .cells #[.int .i64 0, .slice none 0 0] 28 (0, 0)) (bvK BK241.out) hb2) (by decide)); have n4_ := Aside0.mk (Ne.symm (IsS121.ne_blk hi (blk_below (g := gb241) (o := .cells #[.int .i64 0, .slice none 0 0] 28 (0, 0)) (bvK BK241.out) hb2) (by decide))); clear BK241; clear HB; have BK241 := n0_; have HB := n1_; have HI244 := n2_; have NB244_241 := n3_; have NB241_244 := n4_; clear n0_ n1_ n2_ n3_ n4_; (try clear hb); (try clear hb2); (try clear hk); (try clear hi)) | ((with_reducible refine gate_callee (f := 78) rfl ?_); refine goesL_ (some 10) rfl rfl Try.func78 (by kernel_rfl) rfl #[.pointer (some ⟨g244, 0, none⟩), .int .i64 5] rfl lmB ?_; (with_reducible refine (spec_l7Any.calls k g244 t242 t243 5 t245 t246 t249 w _ ?side1 ?side2 A3.out).mono ?_); (case side1 => repeat (first | (with_reducible first | exact HI244.out | apply IsS121.alloc | apply IsS121.drewN | apply IsS121.drew | apply IsS121.set_1 | refine IsS121.far ?_ NB244_241.out _) | exact HI244.out)); (case side2 => repeat (first | (with_reducible first | exact HB.out | apply bwA | apply bwN | apply bwD | refine below_set ?_ (IsS121.ge HI244.out) | refine below_set ?_ GE241.out) | exact HB.out)); rintro e w8 ⟨v247, rfl, ho0, hi, hb, hk⟩; refine ⟨_, rfl, ?_⟩; have n0_ := Aside0.mk (KeepBut.blk hk (g' := gb241) (o := .cells #[.int .i64 0, .slice none 0 0] 28 (0, 0)) (bvK BK241.out) NB241_244.out (by simp)); have n1_ := Aside0.mk (Kd.R_lower ho0 (below_size (by repeat (first | (with_reducible first | exact HB.out | apply bwA | apply bwN | apply bwD | refine below_set ?_ (IsS121.ge HI244.out) | refine below_set ?_ GE241.out) | exact HB.out)))); have n2_ := Aside0.mk (hb); have n3_ := Aside0.mk (hi); clear BK241; clear HB; clear HI244; have BK241 := n0_; have HO248 := n1_; have HB := n2_; have HI244 := n3_; clear n0_ n1_ n2_ n3_; (try clear hb); (try clear hb2); (try clear hk); (try clear hi); (try clear ho0)) | ((with_reducible refine gate_dst (N := 6) rfl ?_); refine box_event ?hg (N := 6) ?hd (cs := #[.int .i64 0, .slice none 0 0]) (t := 28) ?hr ?_; (case hd => rfl); (case hg => rfl); (case hr => first | (go_simp; done) | (go_simp; rfl)); intro gb250 hg w9 hbox hb; have n0_ := Aside0.mk (Kd.R_below (rvR HO248.out) hb); have n1_ := Aside0.mk (blk_below (g := gb241) (o := .cells #[.int .i64 0, .slice none 0 0] 28 (0, 0)) (bvK BK241.out) hb); have n2_ := Aside0.mk (IsS121.below (by repeat (first | (with_reducible first | exact HI244.out | apply IsS121.alloc | apply IsS121.drewN | apply IsS121.drew | apply IsS121.set_1 | refine IsS121.far ?_ NB244_241.out _) | exact HI244.out)) hb); have n3_ := Aside0.mk (below_step (by repeat (first | (with_reducible first | exact HB.out | apply bwA | apply bwN | apply bwD | refine below_set ?_ (IsS121.ge HI244.out) | refine below_set ?_ GE241.out) | exact HB.out)) hb); have n4_ := Aside0.mk (hbox); have n5_ := Aside0.mk ((by rw [hg]; exact (below_size (by repeat (first | (with_reducible first | exact HB.out | apply bwA | apply bwN | apply bwD | refine below_set ?_ (IsS121.ge HI244.out) | refine below_set ?_ GE241.out) | exact HB.out))) : w.heap.size ≤ gb250)); have n6_ := Aside0.mk ((by rw [hg]; exact (below_size (by repeat (first | (with_reducible first | exact HB.out | apply bwA | apply bwN | apply bwD | refine below_set ?_ (IsS121.ge HI244.out) | refine below_set ?_ GE241.out) | exact HB.out))) : w.heap.size ≤ gb250)); have n7_ := Aside0.mk ((by rw [hg]; exact Nat.ne_of_lt (blk_lt (g := gb241) (o := .cells #[.int .i64 0, .slice none 0 0] 28 (0, 0)) (bvK BK241.out)) : gb241 ≠ gb250)); have n8_ := Aside0.mk ((by rw [hg]; exact Nat.ne_of_gt (blk_lt (g := gb241) (o := .cells #[.int .i64 0, .slice none 0 0] 28 (0, 0)) (bvK BK241.out)) : gb250 ≠ gb241)); have n9_ := Aside0.mk ((by rw [hg]; exact Nat.ne_of_lt (IsS121.lt (show IsS121 w _ g244 t242 t249 from by repeat (first | (with_reducible first | exact HI244.out | apply IsS121.alloc | apply IsS121.drewN | apply IsS121.drew | apply IsS121.set_1 | refine IsS121.far ?_ NB244_241.out _) | exact HI244.out))) : g244 ≠ gb250)); have n10_ := Aside0.mk ((by rw [hg]; exact Nat.ne_of_gt (IsS121.lt (show IsS121 w _ g244 t242 t249 from by repeat (first | (with_reducible first | exact HI244.out | apply IsS121.alloc | apply IsS121.drewN | apply IsS121.drew | apply IsS121.set_1 | refine IsS121.far ?_ NB244_241.out _) | exact HI244.out))) : gb250 ≠ g244)); clear HO248; clear BK241; clear HI244; clear HB; have HO248 := n0_; have BK241 := n1_; have HI244 := n2_; have HB := n3_; have BK250 := n4_; have GW250 := n5_; have GE250 := n6_; have NB241_250 := n7_; have NB250_241 := n8_; have NB244_250 := n9_; have NB250_244 := n10_; clear n0_ n1_ n2_ n3_ n4_ n5_ n6_ n7_ n8_ n9_ n10_; clear hb hbox hg; have hnb10 := NB250_241.out; have hnc10 := NB241_250.out; have hnb11 := NB250_244.out; have hnc11 := NB244_250.out; have hcz12_0 : w9.cell? ⟨gb250, 0, none⟩ = some (.int .i64 0) := (blk_cell BK250.out 0).trans rfl; have hcz12_1 : w9.cell? ⟨gb250, 1, none⟩ = some (.slice none 0 0) := (blk_cell BK250.out 1).trans rfl; have hfz12_0 := blk_frozen BK250.out 0; have hfz12_1 := blk_frozen BK250.out 1; obtain ⟨Ao13, co13, eo13⟩ := Kd.R_slice HO248.out; subst eo13) | ((with_reducible refine gate_callee (f := 79) rfl ?_); refine goesL_ (some 12) rfl rfl Try.func79 (by kernel_rfl) rfl #[.pointer (some ⟨g244, 0, none⟩), .int .i64 40] rfl lmB ?_; (with_reducible refine (spec_l40Rd_pick.calls k g244 t242 t249 40 t251 t252 w _ ?side1 ?side2 A4.out).mono ?_); (case side1 => repeat (first | (with_reducible first | exact HI244.out | apply IsS121.alloc | apply IsS121.drewN | apply IsS121.drew | apply IsS121.set_1 | refine IsS121.far ?_ NB244_241.out _ | refine IsS121.far ?_ NB244_250.out _) | exact HI244.out)); (case side2 => repeat (first | (with_reducible first | exact HB.out | apply bwA | apply bwN | apply bwD | refine below_set ?_ (IsS121.ge HI244.out) | refine below_set ?_ GE241.out | refine below_set ?_ GE250.out) | exact HB.out)); rintro e w14 ⟨rfl, hi, hb, hk⟩; refine ⟨_, rfl, ?_⟩; have n0_ := Aside0.mk (KeepBut.blk hk (g' := gb241) (o := .cells #[.int .i64 0, .slice none 0 0] 28 (0, 0)) (by (with_reducible repeat (first | refine blk_drewN ?_ _ | refine blk_drew ?_ | refine blk_alloc ?_ _)); refine blk_far ?_ NB241_250.out _; (with_reducible repeat (first | refine blk_drewN ?_ _ | refine blk_drew ?_ | refine blk_alloc ?_ _)); refine blk_far ?_ NB241_250.out _; (with_reducible repeat (first | refine blk_drewN ?_ _ | refine blk_drew ?_ | refine blk_alloc ?_ _)); exact BK241.out) NB241_244.out (by simp)); have n1_ := Aside0.mk (Kd.R_mono (Kd.R_keep (IsS121.apart (show IsS121 w _ g244 t242 t249 from by repeat (first | (with_reducible first | exact HI244.out | apply IsS121.alloc | apply IsS121.drewN | apply IsS121.drew | apply IsS121.set_1 | refine IsS121.far ?_ NB244_241.out _ | refine IsS121.far ?_ NB244_250.out _) | exact HI244.out)) (by (with_reducible repeat (first | apply Kd.R_alloc | apply Kd.R_drewN | apply Kd.R_drew)); exact (Kd.R_mono (Kd.R_far (p := ⟨gb250, 1, none⟩) (Kd.R_far (p := ⟨gb250, 0, none⟩) (Kd.R_types HO248.out BK250.out (by decide)) (fun _ hk => hk.2) (.int .i64 t245)) (fun _ hk => hk.2) (.slice Ao13 t246.length co13)) (fun _ h_ => h_.1))) (by decide)) hk (fun _ h => h.2)) (fun _ h => h.1)); have n2_ := Aside0.mk (KeepBut.blk hk (g' := gb250) (o := .cells #[.int .i64 t245, .slice Ao13 t246.length co13] 28 (0, 0)) (by (with_reducible repeat (first | refine blk_drewN ?_ _ | refine blk_drew ?_ | refine blk_alloc ?_ _)); refine blk_put (cs := #[.int .i64 t245, .slice none 0 0]) ?_ 1 _ rfl; (with_reducible repeat (first | refine blk_drewN ?_ _ | refine blk_drew ?_ | refine blk_alloc ?_ _)); refine blk_put (cs := #[.int .i64 0, .slice none 0 0]) ?_ 0 _ rfl; (with_reducible repeat (first | refine blk_drewN ?_ _ | refine blk_drew ?_ | refine blk_alloc ?_ _)); exact BK250.out) NB250_244.out (by simp)); have n3_ := Aside0.mk (hb); have n4_ := Aside0.mk (hi); clear BK241; clear HO248; clear BK250; clear HB; clear HI244; have BK241 := n0_; have HO248 := n1_; have BK250 := n2_; have HB := n3_; have HI244 := n4_; clear n0_ n1_ n2_ n3_ n4_; (try clear hb); (try clear hb2); (try clear hk); (try clear hi)))
 (try simp only [Act.put, List.setIfInBounds_toArray, List.set_cons_zero, List.set_cons_succ])
 obtain ⟨qb, hqb⟩ : ∃ q, (t251 == 0) = q := ⟨_, rfl⟩
 rw [hqb]
 go_cut [] (fun wc => ∃ (kq : Nat) (x245001_4 : Int) (x251001_4 : List (S92)) (u251001 : Value), Aside0 (spec_DrawAddAnd.j1 kq t242 x245001_4 t245 x251001_4 = some (r1, r2, r3, r4)) ∧ Aside0 (kq ≤ k) ∧ Aside0 (Kd.R k92 92 wc w.heap.size (fun _ => True) u251001 x251001_4) ∧ Aside0 (wc.heap[gb241]? = some (.cells #[.int .i64 0, (.slice none 0 0)] 28 (0, 0))) ∧ Aside0 (wc.heap[gb250]? = some (.cells #[.int .i64 t245, u251001] 28 (0, 0))) ∧ Aside0 (IsS121 w wc g244 t242 x245001_4) ∧ Aside0 (Below w.heap.size w wc))
 case first =>
  have H := HC5.out
  clear HC5
  by_cases c15 : t251 = 0
  ·rw [if_pos c15] at H
   have c15b0 : (t251 == 0) = true := beq_iff_eq.mpr c15
   have c15b1 : (t251 != 0) = false := bne_eq_false_iff_eq.mpr c15
   clear c15
   obtain rfl : qb = true := hqb.symm.trans c15b0
   have H' := Aside0.mk H
   clear H
   go_wp2
   go_loopg [] k (fun kq w' => ∃ (x251001_1 : List (S92)) (u251001 : Value), Aside0 (spec_DrawAddAnd.l0 kq t242 t252 t245 x251001_1 = some (r1, r2, r3, r4)) ∧ Aside0 (kq ≤ k) ∧ Aside0 (Kd.R k92 92 w' w.heap.size (fun _ => True) u251001 x251001_1) ∧ Aside0 (w'.heap[gb241]? = some (.cells #[.int .i64 0, (.slice none 0 0)] 28 (0, 0))) ∧ Aside0 (w'.heap[gb250]? = some (.cells #[.int .i64 t245, u251001] 28 (0, 0))) ∧ Aside0 (IsS121 w w' g244 t242 t252) ∧ Aside0 (Below w.heap.size w w'))
   case atStart => exact ⟨(t246), (.slice Ao13 t246.length co13), H', ⟨Nat.le_refl _⟩, ⟨rvR HO248.out⟩, ⟨bvK BK241.out⟩, ⟨bvK BK250.out⟩, ⟨by repeat (first | (with_reducible first | exact HI244.out | apply IsS121.alloc | apply IsS121.drewN | apply IsS121.drew | apply IsS121.set_1 | refine IsS121.far ?_ NB244_241.out _ | refine IsS121.far ?_ NB244_250.out _) | exact HI244.out)⟩, ⟨by repeat (first | (with_reducible first | exact HB.out | apply bwA | apply bwN | apply bwD | refine below_set ?_ (IsS121.ge HI244.out) | refine below_set ?_ GE241.out | refine below_set ?_ GE250.out) | exact HB.out)⟩⟩
   case round =>
    clear H'
    try clear c1
    try clear p2
    try clear c6
    try clear c7
    try clear c10
    try clear c11
    try clear c15
    try clear c15b0
    try clear c15b1
    try clear hcz12_0
    try clear hcz12_1
    try clear hfz12_0
    try clear hfz12_1
    obtain ⟨x251001_1, u251001, HA, HK1, HO_251001, BK241, BK250, HI244, HB⟩ := hrel
    cases gk with
    | zero => exact absurd HA.out (by rw [spec_DrawAddAnd.l0_z]; intro h; cases h)
    | succ k1 =>
     have H := HA.out
     clear HA
     rw [spec_DrawAddAnd.l0_s] at H
     by_cases c16 : (x251001_1.length : Int) < 600
     ·rw [if_pos c16] at H
      have c16b0 : decide ((x251001_1.length : Int) < 600) = true := decide_eq_true c16
      have c16b1 : decide (x251001_1.length < 600) = true := decide_eq_true (by omega)
      clear c16
      by_cases c17 : x251001_1.length < 8796093022208
      ·rw [if_pos c17] at H
       have LMc17 := Aside0.mk c17
       clear c17
       obtain ⟨y253, hy253⟩ : ∃ y_ : List (S92), y_ = (x251001_1 ++ [(⟨1, 0⟩ : S92)]) := ⟨_, rfl⟩
       replace H : (spec_DrawAddAnd.l0 k1 t242 t252 t245 y253) = some (r1, r2, r3, r4) := by first | (rw [hy253]; with_reducible exact H) | (have H2_ := (Option.bind_some _ _).symm.trans H; rw [hy253]; with_reducible exact H2_) | (have H2_ := (Option.bind_some _ _).symm.trans H; with_reducible exact H2_) | with_reducible exact H | (rw [hy253]; exact H) | exact H
       have Ny253 := Aside0.mk hy253
       clear hy253
       have H' := Aside0.mk H
       clear H
       have hnb18 := NB250_241.out
       have hnc18 := NB241_250.out
       have hnb19 := NB250_244.out
       have hnc19 := NB244_250.out
       have hcz20_0 : wr.cell? ⟨gb250, 0, none⟩ = some (.int .i64 t245) := (blk_cell BK250.out 0).trans rfl
       have hcz20_1 : wr.cell? ⟨gb250, 1, none⟩ = some (u251001) := (blk_cell BK250.out 1).trans rfl
       have hfz20_0 := blk_frozen BK250.out 0
       have hfz20_1 := blk_frozen BK250.out 1
       obtain ⟨Ao21, co21, eo21⟩ := Kd.R_slice HO_251001.out
       subst eo21
       go_wp2_with (first | ((with_reducible refine gate_builtin (b := .append) (xs := #[.tmp 19, .tmp 21]) rfl ?_); at_builtin; refine Kd.R_append k92 (w0 := w) w.heap.size rfl (.tmp 19) (.tmp 21) 26 92 (.agg #[(.int .i64 0), (.int .i64 0)]) 16 rfl Try.underlying26 info92 rfl (by decide) (by omega) (.slice Ao21 x251001_1.length co21) x251001_1 (⟨1, 0⟩ : S92) [.int .i64 1, .int .i64 0] (fun _ => True) (fun _ => False) rfl rfl ?aP (fun _ hk => hk.elim) ?aF ?aO ?aB ?aS ?aL ?_; (case aP => exact k92_mkM _ _ _ (⟨1, 0⟩ : S92)); (case aB => exact (by repeat (first | (with_reducible first | exact HB.out | apply bwA | apply bwN | apply bwD | refine below_set ?_ (IsS121.ge HI244.out) | refine below_set ?_ GE241.out | refine below_set ?_ GE250.out) | exact HB.out))); (case aF => exact (fun _ _ => trivial)); (case aO => exact (rvR HO_251001.out)); (case aS => exact (below_size (by repeat (first | (with_reducible first | exact HB.out | apply bwA | apply bwN | apply bwD | refine below_set ?_ (IsS121.ge HI244.out) | refine below_set ?_ GE241.out | refine below_set ?_ GE250.out) | exact HB.out)))); (case aL => have := LMc17.out; omega); intro v254 w22 ho hb hg hat; rw [← Ny253.out] at ho; have n0_ := Aside0.mk (blk_grown (g := gb241) (o := .cells #[.int .i64 0, .slice none 0 0] 28 (0, 0)) (bvK BK241.out) hg (Kd.R_ne HO_251001.out BK241.out (by decide))); have n1_ := Aside0.mk (blk_grown (g := gb250) (o := .cells #[.int .i64 t245, .slice Ao21 x251001_1.length co21] 28 (0, 0)) (bvK BK250.out) hg (Kd.R_ne HO_251001.out BK250.out (by decide))); have n2_ := Aside0.mk (IsS121.grown (by repeat (first | (with_reducible first | exact HI244.out | apply IsS121.alloc | apply IsS121.drewN | apply IsS121.drew | apply IsS121.set_1 | refine IsS121.far ?_ NB244_241.out _ | refine IsS121.far ?_ NB244_250.out _) | exact HI244.out)) hg (IsS121.own_ne HI244.out HO_251001.out (by decide))); have n3_ := Aside0.mk (hb); have n4_ := Aside0.mk (ho); clear BK241; clear BK250; clear HI244; clear HB; clear HO_251001; have BK241 := n0_; have BK250 := n1_; have HI244 := n2_; have HB := n3_; have HO255 := n4_; clear n0_ n1_ n2_ n3_ n4_; clear ho hb hg hat; obtain ⟨Ao23, co23, eo23⟩ := Kd.R_slice HO255.out; subst eo23; have hcz24_0 : w22.cell? ⟨gb250, 0, none⟩ = some (.int .i64 t245) := (blk_cell BK250.out 0).trans rfl; have hcz24_1 : w22.cell? ⟨gb250, 1, none⟩ = some (.slice Ao21 x251001_1.length co21) := (blk_cell BK250.out 1).trans rfl; have hfz24_0 := blk_frozen BK250.out 0; have hfz24_1 := blk_frozen BK250.out 1))
       go_roundg k1
       case measure => have := HK1.out; omega
       case rel => exact ⟨(y253), (.slice Ao23 y253.length co23), H', ⟨by have := HK1.out; omega⟩, ⟨by (with_reducible repeat (first | apply Kd.R_alloc | apply Kd.R_drewN | apply Kd.R_drew)); exact Kd.R_mono (Kd.R_far (p := ⟨gb250, 1, none⟩) (Kd.R_types HO255.out BK250.out (by decide)) (fun _ hk => hk.2) (.slice Ao23 y253.length co23)) (fun _ hk => trivial)⟩, ⟨by (with_reducible repeat (first | refine blk_drewN ?_ _ | refine blk_drew ?_ | refine blk_alloc ?_ _)); refine blk_far ?_ NB241_250.out _; (with_reducible repeat (first | refine blk_drewN ?_ _ | refine blk_drew ?_ | refine blk_alloc ?_ _)); exact BK241.out⟩, ⟨by (with_reducible repeat (first | refine blk_drewN ?_ _ | refine blk_drew ?_ | refine blk_alloc ?_ _)); refine blk_put (cs := #[.int .i64 t245, .slice Ao21 x251001_1.length co21]) ?_ 1 _ rfl; (with_reducible repeat (first | refine blk_drewN ?_ _ | refine blk_drew ?_ | refine blk_alloc ?_ _)); exact BK250.out⟩, ⟨by repeat (first | (with_reducible first | exact HI244.out | apply IsS121.alloc | apply IsS121.drewN | apply IsS121.drew | apply IsS121.set_1 | refine IsS121.far ?_ NB244_241.out _ | refine IsS121.far ?_ NB244_250.out _) | exact HI244.out)⟩, ⟨by repeat (first | (with_reducible first | exact HB.out | apply bwA | apply bwN | apply bwD | refine below_set ?_ (IsS121.ge HI244.out) | refine below_set ?_ GE241.out | refine below_set ?_ GE250.out) | exact HB.out)⟩⟩
      ·rw [if_neg c17] at H
       exact absurd H (by simp)
     ·rw [if_neg c16] at H
      have c16b0 : decide ((x251001_1.length : Int) < 600) = false := decide_eq_false c16
      have c16b1 : decide (x251001_1.length < 600) = false := decide_eq_false (by omega)
      clear c16
      replace H := Option.bind_eq_some_iff.mp H
      obtain ⟨⟨t256, t257⟩, A250, H⟩ := H
      replace H : (if t256 = 0 then (if 599 ≤ (x251001_1.length : Int) then (spec_DrawAddAnd.j1 k1 t242 t257 t245 (x251001_1.take (599 : Int).toNat)) else (none)) else (spec_DrawAddAnd.j1 k1 t242 t257 t245 x251001_1)) = some (r1, r2, r3, r4) := H
      have A25 := Aside0.mk A250
      clear A250
      by_cases c26 : t256 = 0
      ·rw [if_pos c26] at H
       have c26b0 : (t256 == 0) = true := beq_iff_eq.mpr c26
       have c26b1 : (t256 != 0) = false := bne_eq_false_iff_eq.mpr c26
       clear c26
       by_cases c27 : 599 ≤ (x251001_1.length : Int)
       ·rw [if_pos c27] at H
        have c27b0 := eq_true c27
        have c27b1 : decide (599 ≤ (x251001_1.length : Int)) = true := decide_eq_true c27
        clear c27
        obtain ⟨y258, hy258⟩ : ∃ y_ : List (S92), y_ = (x251001_1.take (599 : Int).toNat) := ⟨_, rfl⟩
        replace H : (spec_DrawAddAnd.j1 k1 t242 t257 t245 y258) = some (r1, r2, r3, r4) := by first | (rw [hy258]; with_reducible exact H) | (have H2_ := (Option.bind_some _ _).symm.trans H; rw [hy258]; with_reducible exact H2_) | (have H2_ := (Option.bind_some _ _).symm.trans H; with_reducible exact H2_) | with_reducible exact H | (rw [hy258]; exact H) | exact H
        have Ny258 := Aside0.mk hy258
        clear hy258
        have H' := Aside0.mk H
        clear H
        have hnb28 := NB250_241.out
        have hnc28 := NB241_250.out
        have hnb29 := NB250_244.out
        have hnc29 := NB244_250.out
        have hcz30_0 : wr.cell? ⟨gb250, 0, none⟩ = some (.int .i64 t245) := (blk_cell BK250.out 0).trans rfl
        have hcz30_1 : wr.cell? ⟨gb250, 1, none⟩ = some (u251001) := (blk_cell BK250.out 1).trans rfl
        have hfz30_0 := blk_frozen BK250.out 0
        have hfz30_1 := blk_frozen BK250.out 1
        obtain ⟨Ao31, co31, eo31⟩ := Kd.R_slice HO_251001.out
        subst eo31
        go_wp2_with (first | ((with_reducible refine gate_callee (f := 79) rfl ?_); refine goesL_ (some 25) rfl rfl Try.func79 (by kernel_rfl) rfl #[.pointer (some ⟨g244, 0, none⟩), .int .i64 3] rfl lmB ?_; (with_reducible refine (spec_l40Rd_pick.calls k1 g244 t242 t252 3 t256 t257 w _ ?side1 ?side2 A25.out).mono ?_); (case side1 => repeat (first | (with_reducible first | exact HI244.out | apply IsS121.alloc | apply IsS121.drewN | apply IsS121.drew | apply IsS121.set_1 | refine IsS121.far ?_ NB244_241.out _ | refine IsS121.far ?_ NB244_250.out _) | exact HI244.out)); (case side2 => repeat (first | (with_reducible first | exact HB.out | apply bwA | apply bwN | apply bwD | refine below_set ?_ (IsS121.ge HI244.out) | refine below_set ?_ GE241.out | refine below_set ?_ GE250.out) | exact HB.out)); rintro e w32 ⟨rfl, hi, hb, hk⟩; refine ⟨_, rfl, ?_⟩; have n0_ := Aside0.mk (Kd.R_mono (Kd.R_keep (IsS121.apart (show IsS121 w _ g244 t242 t252 from by repeat (first | (with_reducible first | exact HI244.out | apply IsS121.alloc | apply IsS121.drewN | apply IsS121.drew | apply IsS121.set_1 | refine IsS121.far ?_ NB244_241.out _ | refine IsS121.far ?_ NB244_250.out _) | exact HI244.out)) (rvR HO_251001.out) (by decide)) hk (fun _ h => h.2)) (fun _ h => h.1)); have n1_ := Aside0.mk (KeepBut.blk hk (g' := gb241) (o := .cells #[.int .i64 0, .slice none 0 0] 28 (0, 0)) (bvK BK241.out) NB241_244.out (by simp)); have n2_ := Aside0.mk (KeepBut.blk hk (g' := gb250) (o := .cells #[.int .i64 t245, .slice Ao31 x251001_1.length co31] 28 (0, 0)) (bvK BK250.out) NB250_244.out (by simp)); have n3_ := Aside0.mk (hb); have n4_ := Aside0.mk (hi); clear HO_251001; clear BK241; clear BK250; clear HB; clear HI244; have HO_251001 := n0_; have BK241 := n1_; have BK250 := n2_; have HB := n3_; have HI244 := n4_; clear n0_ n1_ n2_ n3_ n4_; (try clear hb); (try clear hb2); (try clear hk); (try clear hi); have hcz33_0 : w32.cell? ⟨gb250, 0, none⟩ = some (.int .i64 t245) := (blk_cell BK250.out 0).trans rfl; have hcz33_1 : w32.cell? ⟨gb250, 1, none⟩ = some (.slice Ao31 x251001_1.length co31) := (blk_cell BK250.out 1).trans rfl; have hfz33_0 := blk_frozen BK250.out 0; have hfz33_1 := blk_frozen BK250.out 1; have q34 : (599 : Int) ≤ ((x251001_1.length : Int) : Int) := oda; obtain ⟨i034, hi034, _, hsz34, _⟩ := info_parts info92; have hcut34 := cut_to (P := Try.prog) 26 92 .i64 Try.underlying26 hi034 Ao31 x251001_1.length co31 599 (by omega) q34 (Kd.R_reads' HO_251001.out).2.1; have hr34 := Kd.R_take (m := (599 : Int).toNat) HO_251001.out (by omega); have hy34 : y258.length = (599 : Int).toNat := (by rw [Ny258.out, List.length_take]; omega); rw [← Ny258.out] at hr34; rw [← hy34] at hr34 hcut34; clear hy34 hi034 hsz34 HO_251001; have HO260 := Aside0.mk hr34; clear hr34; replace q34 := eq_true q34))
        go_meet
        case rel => exact ⟨_, (t257), (y258), (.slice Ao31 y258.length co31), H', ⟨by have := HK1.out; first | omega | exact Nat.le_refl _⟩, ⟨by (with_reducible repeat (first | apply Kd.R_alloc | apply Kd.R_drewN | apply Kd.R_drew)); exact Kd.R_mono (Kd.R_far (p := ⟨gb250, 1, none⟩) (Kd.R_types HO260.out BK250.out (by decide)) (fun _ hk => hk.2) (.slice Ao31 y258.length co31)) (fun _ hk => trivial)⟩, ⟨by (with_reducible repeat (first | refine blk_drewN ?_ _ | refine blk_drew ?_ | refine blk_alloc ?_ _)); refine blk_far ?_ NB241_250.out _; (with_reducible repeat (first | refine blk_drewN ?_ _ | refine blk_drew ?_ | refine blk_alloc ?_ _)); exact BK241.out⟩, ⟨by (with_reducible repeat (first | refine blk_drewN ?_ _ | refine blk_drew ?_ | refine blk_alloc ?_ _)); refine blk_put (cs := #[.int .i64 t245, .slice Ao31 x251001_1.length co31]) ?_ 1 _ rfl; (with_reducible repeat (first | refine blk_drewN ?_ _ | refine blk_drew ?_ | refine blk_alloc ?_ _)); exact BK250.out⟩, ⟨by repeat (first | (with_reducible first | exact HI244.out | apply IsS121.alloc | apply IsS121.drewN | apply IsS121.drew | apply IsS121.set_1 | refine IsS121.far ?_ NB244_241.out _ | refine IsS121.far ?_ NB244_250.out _) | exact HI244.out)⟩, ⟨by repeat (first | (with_reducible first | exact HB.out | apply bwA | apply bwN | apply bwD | refine below_set ?_ (IsS121.ge HI244.out) | refine below_set ?_ GE241.out | refine below_set ?_ GE250.out) | exact HB.out)⟩⟩
       ·rw [if_neg c27] at H
        exact absurd H (by simp)
      ·rw [if_neg c26] at H
       have c26b0 : (t256 == 0) = false := beq_eq_false_iff_ne.mpr c26
       have c26b1 : (t256 != 0) = true := bne_iff_ne.mpr c26
       have H' := Aside0.mk H
       clear H
       have hnb35 := NB250_241.out
       have hnc35 := NB241_250.out
       have hnb36 := NB250_244.out
       have hnc36 := NB244_250.out
       have hcz37_0 : wr.cell? ⟨gb250, 0, none⟩ = some (.int .i64 t245) := (blk_cell BK250.out 0).trans rfl
       have hcz37_1 : wr.cell? ⟨gb250, 1, none⟩ = some (u251001) := (blk_cell BK250.out 1).trans rfl
       have hfz37_0 := blk_frozen BK250.out 0
       have hfz37_1 := blk_frozen BK250.out 1
       obtain ⟨Ao38, co38, eo38⟩ := Kd.R_slice HO_251001.out
       subst eo38
       go_wp2_with (first | ((with_reducible refine gate_callee (f := 79) rfl ?_); refine goesL_ (some 25) rfl rfl Try.func79 (by kernel_rfl) rfl #[.pointer (some ⟨g244, 0, none⟩), .int .i64 3] rfl lmB ?_; (with_reducible refine (spec_l40Rd_pick.calls k1 g244 t242 t252 3 t256 t257 w _ ?side1 ?side2 A25.out).mono ?_); (case side1 => repeat (first | (with_reducible first | exact HI244.out | apply IsS121.alloc | apply IsS121.drewN | apply IsS121.drew | apply IsS121.set_1 | refine IsS121.far ?_ NB244_241.out _ | refine IsS121.far ?_ NB244_250.out _) | exact HI244.out)); (case side2 => repeat (first | (with_reducible first | exact HB.out | apply bwA | apply bwN | apply bwD | refine below_set ?_ (IsS121.ge HI244.out) | refine below_set ?_ GE241.out | refine below_set ?_ GE250.out) | exact HB.out)); rintro e w39 ⟨rfl, hi, hb, hk⟩; refine ⟨_, rfl, ?_⟩; have n0_ := Aside0.mk (Kd.R_mono (Kd.R_keep (IsS121.apart (show IsS121 w _ g244 t242 t252 from by repeat (first | (with_reducible first | exact HI244.out | apply IsS121.alloc | apply IsS121.drewN | apply IsS121.drew | apply IsS121.set_1 | refine IsS121.far ?_ NB244_241.out _ | refine IsS121.far ?_ NB244_250.out _) | exact HI244.out)) (rvR HO_251001.out) (by decide)) hk (fun _ h => h.2)) (fun _ h => h.1)); have n1_ := Aside0.mk (KeepBut.blk hk (g' := gb241) (o := .cells #[.int .i64 0, .slice none 0 0] 28 (0, 0)) (bvK BK241.out) NB241_244.out (by simp)); have n2_ := Aside0.mk (KeepBut.blk hk (g' := gb250) (o := .cells #[.int .i64 t245, .slice Ao38 x251001_1.length co38] 28 (0, 0)) (bvK BK250.out) NB250_244.out (by simp)); have n3_ := Aside0.mk (hb); have n4_ := Aside0.mk (hi); clear HO_251001; clear BK241; clear BK250; clear HB; clear HI244; have HO_251001 := n0_; have BK241 := n1_; have BK250 := n2_; have HB := n3_; have HI244 := n4_; clear n0_ n1_ n2_ n3_ n4_; (try clear hb); (try clear hb2); (try clear hk); (try clear hi)))
       go_meet
       case rel => exact ⟨_, (t257), (x251001_1), (.slice Ao38 x251001_1.length co38), H', ⟨by have := HK1.out; first | omega | exact Nat.le_refl _⟩, ⟨rvR HO_251001.out⟩, ⟨bvK BK241.out⟩, ⟨bvK BK250.out⟩, ⟨by repeat (first | (with_reducible first | exact HI244.out | apply IsS121.alloc | apply IsS121.drewN | apply IsS121.drew | apply IsS121.set_1 | refine IsS121.far ?_ NB244_241.out _ | refine IsS121.far ?_ NB244_250.out _) | exact HI244.out)⟩, ⟨by repeat (first | (with_reducible first | exact HB.out | apply bwA | apply bwN | apply bwD | refine below_set ?_ (IsS121.ge HI244.out) | refine below_set ?_ GE241.out | refine below_set ?_ GE250.out) | exact HB.out)⟩⟩
  ·rw [if_neg c15] at H
   have c15b0 : (t251 == 0) = false := beq_eq_false_iff_ne.mpr c15
   have c15b1 : (t251 != 0) = true := bne_iff_ne.mpr c15
   obtain rfl : qb = false := hqb.symm.trans c15b0
   have H' := Aside0.mk H
   clear H
   go_wp2
   go_meet
   case rel => exact ⟨_, (t252), (t246), (.slice Ao13 t246.length co13), H', ⟨by first | omega | exact Nat.le_refl _⟩, ⟨rvR HO248.out⟩, ⟨bvK BK241.out⟩, ⟨bvK BK250.out⟩, ⟨by repeat (first | (with_reducible first | exact HI244.out | apply IsS121.alloc | apply IsS121.drewN | apply IsS121.drew | apply IsS121.set_1 | refine IsS121.far ?_ NB244_241.out _ | refine IsS121.far ?_ NB244_250.out _) | exact HI244.out)⟩, ⟨by repeat (first | (with_reducible first | exact HB.out | apply bwA | apply bwN | apply bwD | refine below_set ?_ (IsS121.ge HI244.out) | refine below_set ?_ GE241.out | refine below_set ?_ GE250.out) | exact HB.out)⟩⟩
 case rest =>
  clear HC5
  try clear c1
  try clear c2
  try clear p2
  try clear c3
  try clear q3
  try clear c6
  try clear c7
  try clear c10
  try clear c11
  try clear c15
  try clear c15b0
  try clear c15b1
  try clear c16
  try clear c16b0
  try clear c16b1
  try clear c17
  try clear c18
  try clear c19
  try clear c26
  try clear c26b0
  try clear c26b1
  try clear c27
  try clear c27b0
  try clear c27b1
  try clear c28
  try clear c29
  try clear q34
  try clear c35
  try clear c36
  try clear hcz12_0
  try clear hcz12_1
  try clear hcz20_0
  try clear hcz20_1
  try clear hcz24_0
  try clear hcz24_1
  try clear hcz30_0
  try clear hcz30_1
  try clear hcz33_0
  try clear hcz33_1
  try clear hcz37_0
  try clear hcz37_1
  try clear hfz12_0
  try clear hfz12_1
  try clear hfz20_0
  try clear hfz20_1
  try clear hfz24_0
  try clear hfz24_1
  try clear hfz30_0
  try clear hfz30_1
  try clear hfz33_0
  try clear hfz33_1
  try clear hfz37_0
  try clear hfz37_1
  try clear p2
  try clear q34
  obtain ⟨kq, x245001_4, x251001_4, u251001, HA, HJ4, HO_251001, BK241, BK250, HI244, HB⟩ := hcut
  cases kq with
  | zero => exact absurd HA.out (by simp [spec_DrawAddAnd.j1])
  | succ kj4 =>
   have H := HA.out
   clear HA
   simp only [spec_DrawAddAnd.j1] at H
   have HC40 := Aside0.mk H
   clear H
   go_upto_region 8 with (fail)
   go_cut [39] (fun v39 wc => ∃ (kq : Nat) (x39_39 : Bool) (x245001_39 : Int), v39 = .bool x39_39 ∧ Aside0 (spec_DrawAddAnd.j2 kq x39_39 t242 x245001_39 t245 x251001_4 = some (r1, r2, r3, r4)) ∧ Aside0 (kq ≤ kj4) ∧ Aside0 (Kd.R k92 92 wc w.heap.size (fun _ => True) u251001 x251001_4) ∧ Aside0 (wc.heap[gb241]? = some (.cells #[.int .i64 0, (.slice none 0 0)] 28 (0, 0))) ∧ Aside0 (wc.heap[gb250]? = some (.cells #[.int .i64 t245, u251001] 28 (0, 0))) ∧ Aside0 (IsS121 w wc g244 t242 x245001_39) ∧ Aside0 (Below w.heap.size w wc))
   case first =>
    have H := HC40.out
    clear HC40
    by_cases c41 : (x251001_4.length : Int) > 0
    ·rw [if_pos c41] at H
     have c41b0 : decide (0 < (x251001_4.length : Int)) = true := decide_eq_true c41
     have c41b1 : decide (0 < x251001_4.length) = true := decide_eq_true (by omega)
     clear c41
     (first | rw [c41b0] | (simp only [i64_w, i32_w]; rw [c41b0]) | skip)
     replace H := Option.bind_eq_some_iff.mp H
     obtain ⟨⟨t261, t262⟩, A420, H⟩ := H
     replace H : (spec_DrawAddAnd.j2 kj4 (t261 == 0) t242 t262 t245 x251001_4) = some (r1, r2, r3, r4) := H
     have A42 := Aside0.mk A420
     clear A420
     have H' := Aside0.mk H
     clear H
     have hnb43 := NB250_241.out
     have hnc43 := NB241_250.out
     have hnb44 := NB250_244.out
     have hnc44 := NB244_250.out
     have hcz45_0 : wc.cell? ⟨gb250, 0, none⟩ = some (.int .i64 t245) := (blk_cell BK250.out 0).trans rfl
     have hcz45_1 : wc.cell? ⟨gb250, 1, none⟩ = some (u251001) := (blk_cell BK250.out 1).trans rfl
     have hfz45_0 := blk_frozen BK250.out 0
     have hfz45_1 := blk_frozen BK250.out 1
     obtain ⟨Ao46, co46, eo46⟩ := Kd.R_slice HO_251001.out
     subst eo46
     go_wp2_with (first | (go_at_call 79; (with_reducible refine (spec_l40Rd_pick.calls kj4 g244 t242 x245001_4 5 t261 t262 w _ ?side1 ?side2 A42.out).mono ?_); (case side1 => repeat (first | (with_reducible first | exact HI244.out | apply IsS121.alloc | apply IsS121.drewN | apply IsS121.drew | apply IsS121.set_1 | refine IsS121.far ?_ NB244_241.out _ | refine IsS121.far ?_ NB244_250.out _) | exact HI244.out)); (case side2 => repeat (first | (with_reducible first | exact HB.out | apply bwA | apply bwN | apply bwD | refine below_set ?_ (IsS121.ge HI244.out) | refine below_set ?_ GE241.out | refine below_set ?_ GE250.out) | exact HB.out)); rintro e w47 ⟨rfl, hi, hb, hk⟩; have n0_ := Aside0.mk (Kd.R_mono (Kd.R_keep (IsS121.apart (show IsS121 w _ g244 t242 x245001_4 from by repeat (first | (with_reducible first | exact HI244.out | apply IsS121.alloc | apply IsS121.drewN | apply IsS121.drew | apply IsS121.set_1 | refine IsS121.far ?_ NB244_241.out _ | refine IsS121.far ?_ NB244_250.out _) | exact HI244.out)) (rvR HO_251001.out) (by decide)) hk (fun _ h => h.2)) (fun _ h => h.1)); have n1_ := Aside0.mk (KeepBut.blk hk (g' := gb241) (o := .cells #[.int .i64 0, .slice none 0 0] 28 (0, 0)) (bvK BK241.out) NB241_244.out (by simp)); have n2_ := Aside0.mk (KeepBut.blk hk (g' := gb250) (o := .cells #[.int .i64 t245, .slice Ao46 x251001_4.length co46] 28 (0, 0)) (bvK BK250.out) NB250_244.out (by simp)); have n3_ := Aside0.mk (hb); have n4_ := Aside0.mk (hi); clear HO_251001; clear BK241; clear BK250; clear HB; clear HI244; have HO_251001 := n0_; have BK241 := n1_; have BK250 := n2_; have HB := n3_; have HI244 := n4_; clear n0_ n1_ n2_ n3_ n4_; (try clear hb); (try clear hb2); (try clear hk); (try clear hi)))
     go_meet
     case rel => exact ⟨_, ((t261 == 0)), (t262), rsd, H', ⟨by have := HJ4.out; first | omega | exact Nat.le_refl _⟩, ⟨rvR HO_251001.out⟩, ⟨bvK BK241.out⟩, ⟨bvK BK250.out⟩, ⟨by repeat (first | (with_reducible first | exact HI244.out | apply IsS121.alloc | apply IsS121.drewN | apply IsS121.drew | apply IsS121.set_1 | refine IsS121.far ?_ NB244_241.out _ | refine IsS121.far ?_ NB244_250.out _) | exact HI244.out)⟩, ⟨by repeat (first | (with_reducible first | exact HB.out | apply bwA | apply bwN | apply bwD | refine below_set ?_ (IsS121.ge HI244.out) | refine below_set ?_ GE241.out | refine below_set ?_ GE250.out) | exact HB.out)⟩⟩
    ·rw [if_neg c41] at H
     have c41b0 : decide (0 < (x251001_4.length : Int)) = false := decide_eq_false c41
     have c41b1 : decide (0 < x251001_4.length) = false := decide_eq_false (by omega)
     clear c41
     (first | rw [c41b0] | (simp only [i64_w, i32_w]; rw [c41b0]) | skip)
     have H' := Aside0.mk H
     clear H
     have hnb48 := NB250_241.out
     have hnc48 := NB241_250.out
     have hnb49 := NB250_244.out
     have hnc49 := NB244_250.out
     have hcz50_0 : wc.cell? ⟨gb250, 0, none⟩ = some (.int .i64 t245) := (blk_cell BK250.out 0).trans rfl
     have hcz50_1 : wc.cell? ⟨gb250, 1, none⟩ = some (u251001) := (blk_cell BK250.out 1).trans rfl
     have hfz50_0 := blk_frozen BK250.out 0
     have hfz50_1 := blk_frozen BK250.out 1
     obtain ⟨Ao51, co51, eo51⟩ := Kd.R_slice HO_251001.out
     subst eo51
     go_wp2
     go_meet
     case rel => exact ⟨_, (false), (x245001_4), rsd, H', ⟨by have := HJ4.out; first | omega | exact Nat.le_refl _⟩, ⟨rvR HO_251001.out⟩, ⟨bvK BK241.out⟩, ⟨bvK BK250.out⟩, ⟨by repeat (first | (with_reducible first | exact HI244.out | apply IsS121.alloc | apply IsS121.drewN | apply IsS121.drew | apply IsS121.set_1 | refine IsS121.far ?_ NB244_241.out _ | refine IsS121.far ?_ NB244_250.out _) | exact HI244.out)⟩, ⟨by repeat (first | (with_reducible first | exact HB.out | apply bwA | apply bwN | apply bwD | refine below_set ?_ (IsS121.ge HI244.out) | refine below_set ?_ GE241.out | refine below_set ?_ GE250.out) | exact HB.out)⟩⟩
   case rest =>
    clear HC40
    try clear c1
    try clear c2
    try clear p2
    try clear c3
    try clear q3
    try clear c4
    try clear c6
    try clear c7
    try clear c10
    try clear c11
    try clear c15
    try clear c15b0
    try clear c15b1
    try clear c16
    try clear c16b0
    try clear c16b1
    try clear c17
    try clear c18
    try clear c19
    try clear c26
    try clear c26b0
    try clear c26b1
    try clear c27
    try clear c27b0
    try clear c27b1
    try clear c28
    try clear c29
    try clear q34
    try clear c35
    try clear c36
    try clear c41
    try clear c41b0
    try clear c41b1
    try clear c43
    try clear c44
    try clear c48
    try clear c49
    try clear hcz12_0
    try clear hcz12_1
    try clear hcz20_0
    try clear hcz20_1
    try clear hcz24_0
    try clear hcz24_1
    try clear hcz30_0
    try clear hcz30_1
    try clear hcz33_0
    try clear hcz33_1
    try clear hcz37_0
    try clear hcz37_1
    try clear hcz45_0
    try clear hcz45_1
    try clear hcz50_0
    try clear hcz50_1
    try clear hfz12_0
    try clear hfz12_1
    try clear hfz20_0
    try clear hfz20_1
    try clear hfz24_0
    try clear hfz24_1
    try clear hfz30_0
    try clear hfz30_1
    try clear hfz33_0
    try clear hfz33_1
    try clear hfz37_0
    try clear hfz37_1
    try clear hfz45_0
    try clear hfz45_1
    try clear hfz50_0
    try clear hfz50_1
    try clear p2
    try clear q3
    try clear q34
    obtain ⟨kq, x39_39, x245001_39, rfl, HA, HJ39, HO_251001, BK241, BK250, HI244, HB⟩ := hcut
    cases kq with
    | zero => exact absurd HA.out (by simp [spec_DrawAddAnd.j2])
    | succ kj39 =>
     have H := HA.out
     clear HA
     simp only [spec_DrawAddAnd.j2] at H
     by_cases c52 : x39_39 = true
     ·subst c52
      have H1 : (if 0 < (x251001_4.length : Int) then (some (t245, x251001_4, (rd_T92 x251001_4 0).f1, (rd_T92 x251001_4 0).f0)) else (none)) = some (r1, r2, r3, r4) := by rw [if_pos rfl] at H; exact H
      clear H
      have H := H1
      clear H1
      by_cases c53 : 0 < (x251001_4.length : Int)
      ·rw [if_pos c53] at H
       have c53b0 : decide (0 < (x251001_4.length : Int)) = true := decide_eq_true c53
       have c53b1 : decide (0 < x251001_4.length) = true := decide_eq_true (by omega)
       clear c53
       simp only [Option.some.injEq, Prod.mk.injEq] at H
       obtain ⟨rfl, rfl, rfl, rfl⟩ := H
       try go_wp2
       have n0_ := Aside0.mk (Kd.R_drew HO_251001.out)
       have n1_ := Aside0.mk (blk_drew BK241.out)
       have n2_ := Aside0.mk (blk_drew BK250.out)
       have n3_ := Aside0.mk (IsS121.drew HI244.out)
       have n4_ := Aside0.mk (below_drew1 HB.out)
       clear HO_251001
       clear BK241
       clear BK250
       clear HI244
       clear HB
       have HO_251001 := n0_
       have BK241 := n1_
       have BK250 := n2_
       have HI244 := n3_
       have HB := n4_
       clear n0_ n1_ n2_ n3_ n4_
       obtain ⟨Ao55, co55, eo55⟩ := Kd.R_slice HO_251001.out
       (first | subst eo55 | (injection eo55 with f1_ f2_ f3_; have f4_ := f1_.symm; have f5_ := f3_.symm; clear f1_ f2_ f3_; subst f4_; subst f5_))
       have p263 : 0 ≤ (0 : Int) := (by omega)
       have q263 : 0 < (x251001_4.length : Int) := oda
       obtain ⟨ad263, e263, hx263_0, hx263_1⟩ := at_T92 (Kd.R_reads' HO_251001.out).2.2 0 p263 q263
       cases e263
       have qi263 : (0 < x251001_4.length) = True := eq_true (by omega)
       (try rw [show ((0 : Int)).toNat = 0 from rfl] at hx263_0)
       (try rw [show 0 * 2 = 0 from rfl] at hx263_0)
       (try rw [Addr.add_zero'] at hx263_0)
       (try rw [show ((0 : Int)).toNat = 0 from rfl] at hx263_1)
       (try rw [show 0 * 2 = 0 from rfl] at hx263_1)
       (try rw [Addr.add_zero'] at hx263_1)
       replace p263 := eq_true p263
       replace q263 := eq_true q263
       have p264 : 0 ≤ (0 : Int) := (by omega)
       have q264 : 0 < (x251001_4.length : Int) := oda
       obtain ⟨ad264, e264, hx264_0, hx264_1⟩ := at_T92 (Kd.R_reads' HO_251001.out).2.2 0 p264 q264
       obtain rfl : ad263 = ad264 := (by injection e264)
       have qi264 : (0 < x251001_4.length) = True := eq_true (by omega)
       (try rw [show ((0 : Int)).toNat = 0 from rfl] at hx264_0)
       (try rw [show 0 * 2 = 0 from rfl] at hx264_0)
       (try rw [Addr.add_zero'] at hx264_0)
       (try rw [show ((0 : Int)).toNat = 0 from rfl] at hx264_1)
       (try rw [show 0 * 2 = 0 from rfl] at hx264_1)
       (try rw [Addr.add_zero'] at hx264_1)
       replace p264 := eq_true p264
       replace q264 := eq_true q264
       refine start_ (n := 14) (S := fun w' => w'.cell? ⟨gb250, 0, none⟩ = some (.int .i64 t245) ∧ w'.cell? ⟨gb250, 1, none⟩ = some (.slice (some ad263) x251001_4.length co55) ∧ w'.cell? ad263 = some (.int .i64 ((rd_T92 x251001_4 0).f0)) ∧ w'.cell? ⟨ad263.block, ad263.off + 1, none⟩ = some (.int .i64 ((rd_T92 x251001_4 0).f1)) ∧ w'.cell? ad263 = some (.int .i64 ((rd_T92 x251001_4 0).f0)) ∧ w'.cell? ⟨ad263.block, ad263.off + 1, none⟩ = some (.int .i64 ((rd_T92 x251001_4 0).f1))) (ds := []) (Pt.bm 14 0) (by kernel_rfl) rfl rfl ⟨(blk_cell BK250.out 0).trans rfl, (blk_cell BK250.out 1).trans rfl, hx263_0, hx263_1, hx264_0, hx264_1⟩ (fun hHeld => ?_); refine with_tabW spec_DrawAddAnd.tab9 spec_DrawAddAnd.bits9 (fun HT_ HW_ => ?_)
       generalize wc.drew = w54 at HO_251001 BK241 BK250 HI244 HB hx263_0 hx263_1 hx264_0 hx264_1 hHeld ⊢
       refine Pt.pu 1 (some 41) (Pt.bm 14 2) (any_of HT_.out (by kernel_rfl)) ?_
       refine Pt.pu 6 (some 46) (Pt.bm 14 66) (any_of HT_.out (by kernel_rfl)) ?_
       refine Pt.tk 0 (some 40) (Pt.bm 14 67) rfl rfl (take_ofW HT_.out HW_.out (by kernel_rfl)) hHeld (Or.inl ⟨by rfl, by rintro w' ⟨s0, s1, s2, s3, s4, s5⟩; go_simp; with_reducible rfl⟩) ?_
       refine Pt.tk 2 (some 42) (Pt.bm 14 71) rfl rfl (take_ofW HT_.out HW_.out (by kernel_rfl)) hHeld (Or.inl ⟨by rfl, by rintro w' ⟨s0, s1, s2, s3, s4, s5⟩; go_simp; with_reducible rfl⟩) ?_
       refine Pt.pu 3 (some 43) (Pt.bm 14 79) (any_of HT_.out (by kernel_rfl)) ?_
       refine Pt.pu 4 (some 44) (Pt.bm 14 95) (any_of HT_.out (by kernel_rfl)) ?_
       refine Pt.tk 5 (some 45) (Pt.bm 14 127) rfl rfl (take_ofW HT_.out HW_.out (by kernel_rfl)) hHeld (Or.inl ⟨by rfl, by rintro w' ⟨s0, s1, s2, s3, s4, s5⟩; go_simp; with_reducible rfl⟩) ?_
       refine Pt.tk 7 (some 47) (Pt.bm 14 255) rfl rfl (take_ofW HT_.out HW_.out (by kernel_rfl)) hHeld (Or.inl ⟨by rfl, by rintro w' ⟨s0, s1, s2, s3, s4, s5⟩; go_simp; with_reducible rfl⟩) ?_
       refine Pt.pu 8 (some 48) (Pt.bm 14 511) (any_of HT_.out (by kernel_rfl)) ?_
       refine Pt.pu 9 (some 49) (Pt.bm 14 1023) (any_of HT_.out (by kernel_rfl)) ?_
       refine Pt.tk 10 (some 50) (Pt.bm 14 2047) rfl rfl (take_ofW HT_.out HW_.out (by kernel_rfl)) hHeld (Or.inl ⟨by rfl, by rintro w' ⟨s0, s1, s2, s3, s4, s5⟩; go_simp; with_reducible rfl⟩) ?_
       refine one_ (i := 11) (N := none) (Pt.bm 14 4095) rfl rfl (one_of HT_.out (by kernel_rfl)) (by decide) (fun K hK => ?_)
       have hs56 : w54.cell? ⟨gb241, 0, none⟩ = some (.int .i64 0) := (blk_cell BK241.out 0).trans rfl
       have hfs56 := blk_frozen BK241.out 0
       have hns56_1 := NB250_241.out
       have hms56_1 := NB241_250.out
       have hs57 : w54.cell? ⟨gb241, 1, none⟩ = some (.slice none 0 0) := (blk_cell BK241.out 1).trans rfl
       have hfs57 := blk_frozen BK241.out 1
       have hns57_1 := NB250_241.out
       have hms57_1 := NB241_250.out
       refine skip_ (w1 := ?_) (by rfl) rfl ?_ ?_
       rotate_left
       ·go_simp
        rfl
       refine hK.out _ _ ⟨((cell_far (p := ⟨gb241, _, none⟩) NB250_241.out _).trans (((cell_far (p := ⟨gb241, _, none⟩) NB250_241.out _).trans (hHeld.1)))), ((cell_far (p := ⟨gb241, _, none⟩) NB250_241.out _).trans (((cell_far (p := ⟨gb241, _, none⟩) NB250_241.out _).trans (hHeld.2.1)))), ((cell_far (p := ⟨gb241, _, none⟩) (by first | exact Kd.own_blk (Kd.R_ne HO_251001.out BK241.out (by decide)) | (rw [add_block]; exact Kd.own_blk (Kd.R_ne HO_251001.out BK241.out (by decide))) | (show (Addr.add _ _).block ≠ _; rw [add_block]; exact Kd.own_blk (Kd.R_ne HO_251001.out BK241.out (by decide))) | (dsimp only; exact Kd.own_blk (Kd.R_ne HO_251001.out BK241.out (by decide)))) _).trans (((cell_far (p := ⟨gb241, _, none⟩) (by first | exact Kd.own_blk (Kd.R_ne HO_251001.out BK241.out (by decide)) | (rw [add_block]; exact Kd.own_blk (Kd.R_ne HO_251001.out BK241.out (by decide))) | (show (Addr.add _ _).block ≠ _; rw [add_block]; exact Kd.own_blk (Kd.R_ne HO_251001.out BK241.out (by decide))) | (dsimp only; exact Kd.own_blk (Kd.R_ne HO_251001.out BK241.out (by decide)))) _).trans (hHeld.2.2.1)))), ((cell_far (p := ⟨gb241, _, none⟩) (by first | exact Kd.own_blk (Kd.R_ne HO_251001.out BK241.out (by decide)) | (rw [add_block]; exact Kd.own_blk (Kd.R_ne HO_251001.out BK241.out (by decide))) | (show (Addr.add _ _).block ≠ _; rw [add_block]; exact Kd.own_blk (Kd.R_ne HO_251001.out BK241.out (by decide))) | (dsimp only; exact Kd.own_blk (Kd.R_ne HO_251001.out BK241.out (by decide)))) _).trans (((cell_far (p := ⟨gb241, _, none⟩) (by first | exact Kd.own_blk (Kd.R_ne HO_251001.out BK241.out (by decide)) | (rw [add_block]; exact Kd.own_blk (Kd.R_ne HO_251001.out BK241.out (by decide))) | (show (Addr.add _ _).block ≠ _; rw [add_block]; exact Kd.own_blk (Kd.R_ne HO_251001.out BK241.out (by decide))) | (dsimp only; exact Kd.own_blk (Kd.R_ne HO_251001.out BK241.out (by decide)))) _).trans (hHeld.2.2.2.1)))), ((cell_far (p := ⟨gb241, _, none⟩) (by first | exact Kd.own_blk (Kd.R_ne HO_251001.out BK241.out (by decide)) | (rw [add_block]; exact Kd.own_blk (Kd.R_ne HO_251001.out BK241.out (by decide))) | (show (Addr.add _ _).block ≠ _; rw [add_block]; exact Kd.own_blk (Kd.R_ne HO_251001.out BK241.out (by decide))) | (dsimp only; exact Kd.own_blk (Kd.R_ne HO_251001.out BK241.out (by decide)))) _).trans (((cell_far (p := ⟨gb241, _, none⟩) (by first | exact Kd.own_blk (Kd.R_ne HO_251001.out BK241.out (by decide)) | (rw [add_block]; exact Kd.own_blk (Kd.R_ne HO_251001.out BK241.out (by decide))) | (show (Addr.add _ _).block ≠ _; rw [add_block]; exact Kd.own_blk (Kd.R_ne HO_251001.out BK241.out (by decide))) | (dsimp only; exact Kd.own_blk (Kd.R_ne HO_251001.out BK241.out (by decide)))) _).trans (hHeld.2.2.2.2.1)))), ((cell_far (p := ⟨gb241, _, none⟩) (by first | exact Kd.own_blk (Kd.R_ne HO_251001.out BK241.out (by decide)) | (rw [add_block]; exact Kd.own_blk (Kd.R_ne HO_251001.out BK241.out (by decide))) | (show (Addr.add _ _).block ≠ _; rw [add_block]; exact Kd.own_blk (Kd.R_ne HO_251001.out BK241.out (by decide))) | (dsimp only; exact Kd.own_blk (Kd.R_ne HO_251001.out BK241.out (by decide)))) _).trans (((cell_far (p := ⟨gb241, _, none⟩) (by first | exact Kd.own_blk (Kd.R_ne HO_251001.out BK241.out (by decide)) | (rw [add_block]; exact Kd.own_blk (Kd.R_ne HO_251001.out BK241.out (by decide))) | (show (Addr.add _ _).block ≠ _; rw [add_block]; exact Kd.own_blk (Kd.R_ne HO_251001.out BK241.out (by decide))) | (dsimp only; exact Kd.own_blk (Kd.R_ne HO_251001.out BK241.out (by decide)))) _).trans (hHeld.2.2.2.2.2))))⟩ (fun hHeld => ?_)
       clear hK K
       refine Pt.pu 12 (some 3) (Pt.bm 14 8191) (any_of HT_.out (by kernel_rfl)) ?_
       refine Pt.pu 13 (some 4) (Pt.bm 14 16383) (any_of HT_.out (by kernel_rfl)) ?_
       refine done_ (done_of HT_.out (by kernel_rfl)) ?_
       try go_wp2
       refine bodyPost_ret (results_ctt rfl _ _ gb241 28 #[.int .i64 t245, .slice (some ad263) x251001_4.length co55] (0, 0) _ rfl (by (with_reducible repeat (first | refine blk_drewN ?_ _ | refine blk_drew ?_ | refine blk_alloc ?_ _)); refine blk_put (cs := #[.int .i64 t245, .slice none 0 0]) ?_ 1 _ rfl; (with_reducible repeat (first | refine blk_drewN ?_ _ | refine blk_drew ?_ | refine blk_alloc ?_ _)); refine blk_put (cs := #[.int .i64 0, .slice none 0 0]) ?_ 0 _ rfl; (with_reducible repeat (first | refine blk_drewN ?_ _ | refine blk_drew ?_ | refine blk_alloc ?_ _)); exact BK241.out) Try.underlying28 rfl (by kernel_rfl)) rfl ?_
       exact ⟨_, ers, by (with_reducible repeat (first | apply Kd.R_alloc | apply Kd.R_drewN | apply Kd.R_drew)); exact Kd.R_mono (Kd.R_far (p := ⟨gb241, 1, none⟩) (Kd.R_far (p := ⟨gb241, 0, none⟩) (Kd.R_types HO_251001.out BK241.out (by decide)) (fun _ hk => hk.2) (.int .i64 t245)) (fun _ hk => hk.2) (.slice (some ad263) x251001_4.length co55)) (fun _ hk => trivial), by repeat (first | (with_reducible first | exact HB.out | apply bwA | apply bwN | apply bwD | refine below_set ?_ (IsS121.ge HI244.out) | refine below_set ?_ GE241.out | refine below_set ?_ GE250.out) | exact HB.out)⟩
      ·rw [if_neg c53] at H
       exact absurd H (by simp)
     ·replace c52 := Bool.eq_false_iff.mpr c52
      subst c52
      have H1 : ((spec_l7Some.f kj39 t242 x245001_39 t245 x251001_4).bind fun bt265 => ((spec_l7Some.f kj39 t242 bt265.2 t245 x251001_4).bind fun bt267 => (some (t245, x251001_4, bt265.1, bt267.1)))) = some (r1, r2, r3, r4) := by rw [if_neg (show ¬ (false = true) by decide)] at H; exact H
      clear H
      have H := H1
      clear H1
      replace H := Option.bind_eq_some_iff.mp H
      obtain ⟨⟨t265, t266⟩, A580, H⟩ := H
      replace H : ((spec_l7Some.f kj39 t242 t266 t245 x251001_4).bind fun bt267 => (some (t245, x251001_4, t265, bt267.1))) = some (r1, r2, r3, r4) := H
      have A58 := Aside0.mk A580
      clear A580
      replace H := Option.bind_eq_some_iff.mp H
      obtain ⟨⟨t267, t268⟩, A590, H⟩ := H
      replace H : (some (t245, x251001_4, t265, t267)) = some (r1, r2, r3, r4) := H
      have A59 := Aside0.mk A590
      clear A590
      simp only [Option.some.injEq, Prod.mk.injEq] at H
      obtain ⟨rfl, rfl, rfl, rfl⟩ := H
      try go_wp2
      have n0_ := Aside0.mk (Kd.R_drew HO_251001.out)
      have n1_ := Aside0.mk (blk_drew BK241.out)
      have n2_ := Aside0.mk (blk_drew BK250.out)
      have n3_ := Aside0.mk (IsS121.drew HI244.out)
      have n4_ := Aside0.mk (below_drew1 HB.out)
      clear HO_251001
      clear BK241
      clear BK250
      clear HI244
      clear HB
      have HO_251001 := n0_
      have BK241 := n1_
      have BK250 := n2_
      have HI244 := n3_
      have HB := n4_
      clear n0_ n1_ n2_ n3_ n4_
      obtain ⟨Ao61, co61, eo61⟩ := Kd.R_slice HO_251001.out
      (first | subst eo61 | (injection eo61 with f1_ f2_ f3_; have f4_ := f1_.symm; have f5_ := f3_.symm; clear f1_ f2_ f3_; subst f4_; subst f5_))
      refine start_ (n := 10) (S := fun w' => w'.cell? ⟨gb250, 0, none⟩ = some (.int .i64 t245) ∧ w'.cell? ⟨gb250, 1, none⟩ = some (.slice Ao61 x251001_4.length co61)) (ds := []) (Pt.bm 10 0) (by kernel_rfl) rfl rfl ⟨(blk_cell BK250.out 0).trans rfl, (blk_cell BK250.out 1).trans rfl⟩ (fun hHeld => ?_); refine with_tabW spec_DrawAddAnd.tab10 spec_DrawAddAnd.bits10 (fun HT_ HW_ => ?_)
      generalize wc.drew = w60 at HO_251001 BK241 BK250 HI244 HB hHeld ⊢
      refine Pt.pu 1 (some 52) (Pt.bm 10 2) (any_of HT_.out (by kernel_rfl)) ?_
      refine Pt.pu 4 (some 55) (Pt.bm 10 18) (any_of HT_.out (by kernel_rfl)) ?_
      refine Pt.tk 0 (some 51) (Pt.bm 10 19) rfl rfl (take_ofW HT_.out HW_.out (by kernel_rfl)) hHeld (Or.inl ⟨by rfl, by rintro w' ⟨s0, s1⟩; go_simp; with_reducible rfl⟩) ?_
      refine Pt.tk 2 (some 53) (Pt.bm 10 23) rfl rfl (take_ofW HT_.out HW_.out (by kernel_rfl)) hHeld (Or.inl ⟨by rfl, by rintro w' ⟨s0, s1⟩; go_simp; with_reducible rfl⟩) ?_
      refine Pt.tk 5 (some 56) (Pt.bm 10 55) rfl rfl (take_ofW HT_.out HW_.out (by kernel_rfl)) hHeld (Or.inl ⟨by rfl, by rintro w' ⟨s0, s1⟩; go_simp; with_reducible rfl⟩) ?_
      refine one_ (i := 3) (N := some 54) (Pt.bm 10 63) rfl rfl (one_of HT_.out (by kernel_rfl)) (by decide) (fun K hK => ?_)
      refine goes_ Try.func68 (by kernel_rfl) rfl #[.pointer (some ⟨g244, 0, none⟩), .agg #[.int .i64 t245, .slice Ao61 x251001_4.length co61]] (by rfl) rfl rfl lmB ?_
      with_reducible refine (spec_l7Some.calls kj39 g244 t242 x245001_39 t245 _ _ x251001_4 t265 t266 w _ ?side1 ?side2 ?side3 ?side4 A58.out).mono ?_
      (case side1 => repeat (first | (with_reducible first | exact HI244.out | apply IsS121.alloc | apply IsS121.drewN | apply IsS121.drew | apply IsS121.set_1 | refine IsS121.far ?_ NB244_241.out _ | refine IsS121.far ?_ NB244_250.out _) | exact HI244.out))
      (case side2 => repeat (first | (with_reducible first | exact HB.out | apply bwA | apply bwN | apply bwD | refine below_set ?_ (IsS121.ge HI244.out) | refine below_set ?_ GE241.out | refine below_set ?_ GE250.out) | exact HB.out))
      (case side3 => exact Kd.C_foot_own (IsS121.apart (show IsS121 w _ g244 t242 x245001_39 from by repeat (first | (with_reducible first | exact HI244.out | apply IsS121.alloc | apply IsS121.drewN | apply IsS121.drew | apply IsS121.set_1 | refine IsS121.far ?_ NB244_241.out _ | refine IsS121.far ?_ NB244_250.out _) | exact HI244.out)) (rvR HO_251001.out) (by decide)) (fun _ h_ => h_.2))
      (case side4 => exact (Kd.R_reads' HO_251001.out).2.1)
      rintro e w62 ⟨rfl, hi, hb, hk⟩
      refine ⟨_, rfl, ?_⟩
      have n0_ := Aside0.mk (Kd.R_mono (Kd.R_keep (IsS121.apart (show IsS121 w _ g244 t242 x245001_39 from by repeat (first | (with_reducible first | exact HI244.out | apply IsS121.alloc | apply IsS121.drewN | apply IsS121.drew | apply IsS121.set_1 | refine IsS121.far ?_ NB244_241.out _ | refine IsS121.far ?_ NB244_250.out _) | exact HI244.out)) (rvR HO_251001.out) (by decide)) hk (fun _ h => h.2)) (fun _ h => h.1))
      have n1_ := Aside0.mk (KeepBut.blk hk (g' := gb241) (o := .cells #[.int .i64 0, .slice none 0 0] 28 (0, 0)) (bvK BK241.out) NB241_244.out (by simp))
      have n2_ := Aside0.mk (KeepBut.blk hk (g' := gb250) (o := .cells #[.int .i64 t245, .slice Ao61 x251001_4.length co61] 28 (0, 0)) (bvK BK250.out) NB250_244.out (by simp))
      have n3_ := Aside0.mk (hb)
      have n4_ := Aside0.mk (hi)
      clear HO_251001
      clear BK241
      clear BK250
      clear HB
      clear HI244
      have HO_251001 := n0_
      have BK241 := n1_
      have BK250 := n2_
      have HB := n3_
      have HI244 := n4_
      clear n0_ n1_ n2_ n3_ n4_
      (try clear hb)
      (try clear hb2)
      (try clear hk)
      (try clear hi)
      refine hK.out _ _ ⟨(blk_cell BK250.out 0).trans rfl, (blk_cell BK250.out 1).trans rfl⟩ (fun hHeld => ?_)
      clear hK K
      refine norm_ (a' := ?_) ?_ ?_
      rotate_left
      ·show Act.put _ (some 54) _ = _
       simp only [Act.put, List.setIfInBounds_toArray, List.set_cons_zero, List.set_cons_succ, i64_w, i32_w]
       rfl
      refine one_ (i := 6) (N := some 57) (Pt.bm 10 127) rfl rfl (one_of HT_.out (by kernel_rfl)) (by decide) (fun K hK => ?_)
      refine goes_ Try.func68 (by kernel_rfl) rfl #[.pointer (some ⟨g244, 0, none⟩), .agg #[.int .i64 t245, .slice Ao61 x251001_4.length co61]] (by rfl) rfl rfl lmB ?_
      with_reducible refine (spec_l7Some.calls kj39 g244 t242 t266 t245 _ _ x251001_4 t267 t268 w _ ?side1 ?side2 ?side3 ?side4 A59.out).mono ?_
      (case side1 => repeat (first | (with_reducible first | exact HI244.out | apply IsS121.alloc | apply IsS121.drewN | apply IsS121.drew | apply IsS121.set_1 | refine IsS121.far ?_ NB244_241.out _ | refine IsS121.far ?_ NB244_250.out _) | exact HI244.out))
      (case side2 => repeat (first | (with_reducible first | exact HB.out | apply bwA | apply bwN | apply bwD | refine below_set ?_ (IsS121.ge HI244.out) | refine below_set ?_ GE241.out | refine below_set ?_ GE250.out) | exact HB.out))
      (case side3 => exact Kd.C_foot_own (IsS121.apart (show IsS121 w _ g244 t242 t266 from by repeat (first | (with_reducible first | exact HI244.out | apply IsS121.alloc | apply IsS121.drewN | apply IsS121.drew | apply IsS121.set_1 | refine IsS121.far ?_ NB244_241.out _ | refine IsS121.far ?_ NB244_250.out _) | exact HI244.out)) (rvR HO_251001.out) (by decide)) (fun _ h_ => h_.2))
      (case side4 => exact (Kd.R_reads' HO_251001.out).2.1)
      rintro e w63 ⟨rfl, hi, hb, hk⟩
      refine ⟨_, rfl, ?_⟩
      have n0_ := Aside0.mk (Kd.R_mono (Kd.R_keep (IsS121.apart (show IsS121 w _ g244 t242 t266 from by repeat (first | (with_reducible first | exact HI244.out | apply IsS121.alloc | apply IsS121.drewN | apply IsS121.drew | apply IsS121.set_1 | refine IsS121.far ?_ NB244_241.out _ | refine IsS121.far ?_ NB244_250.out _) | exact HI244.out)) (rvR HO_251001.out) (by decide)) hk (fun _ h => h.2)) (fun _ h => h.1))
      have n1_ := Aside0.mk (KeepBut.blk hk (g' := gb241) (o := .cells #[.int .i64 0, .slice none 0 0] 28 (0, 0)) (bvK BK241.out) NB241_244.out (by simp))
      have n2_ := Aside0.mk (KeepBut.blk hk (g' := gb250) (o := .cells #[.int .i64 t245, .slice Ao61 x251001_4.length co61] 28 (0, 0)) (bvK BK250.out) NB250_244.out (by simp))
      have n3_ := Aside0.mk (hb)
      have n4_ := Aside0.mk (hi)
      clear HO_251001
      clear BK241
      clear BK250
      clear HB
      clear HI244
      have HO_251001 := n0_
      have BK241 := n1_
      have BK250 := n2_
      have HB := n3_
      have HI244 := n4_
      clear n0_ n1_ n2_ n3_ n4_
      (try clear hb)
      (try clear hb2)
      (try clear hk)
      (try clear hi)
      refine hK.out _ _ ⟨(blk_cell BK250.out 0).trans rfl, (blk_cell BK250.out 1).trans rfl⟩ (fun hHeld => ?_)
      clear hK K
      refine norm_ (a' := ?_) ?_ ?_
      rotate_left
      ·show Act.put _ (some 57) _ = _
       simp only [Act.put, List.setIfInBounds_toArray, List.set_cons_zero, List.set_cons_succ, i64_w, i32_w]
       rfl
      refine one_ (i := 7) (N := none) (Pt.bm 10 255) rfl rfl (one_of HT_.out (by kernel_rfl)) (by decide) (fun K hK => ?_)
      have hs64 : w63.cell? ⟨gb241, 0, none⟩ = some (.int .i64 0) := (blk_cell BK241.out 0).trans rfl
      have hfs64 := blk_frozen BK241.out 0
      have hns64_1 := NB250_241.out
      have hms64_1 := NB241_250.out
      have hs65 : w63.cell? ⟨gb241, 1, none⟩ = some (.slice none 0 0) := (blk_cell BK241.out 1).trans rfl
      have hfs65 := blk_frozen BK241.out 1
      have hns65_1 := NB250_241.out
      have hms65_1 := NB241_250.out
      refine skip_ (w1 := ?_) (by rfl) rfl ?_ ?_
      rotate_left
      ·go_simp
       rfl
      refine hK.out _ _ ⟨((cell_far (p := ⟨gb241, _, none⟩) NB250_241.out _).trans (((cell_far (p := ⟨gb241, _, none⟩) NB250_241.out _).trans (hHeld.1)))), ((cell_far (p := ⟨gb241, _, none⟩) NB250_241.out _).trans (((cell_far (p := ⟨gb241, _, none⟩) NB250_241.out _).trans (hHeld.2))))⟩ (fun hHeld => ?_)
      clear hK K
      refine Pt.pu 8 (some 3) (Pt.bm 10 511) (any_of HT_.out (by kernel_rfl)) ?_
      refine Pt.pu 9 (some 4) (Pt.bm 10 1023) (any_of HT_.out (by kernel_rfl)) ?_
      refine done_ (done_of HT_.out (by kernel_rfl)) ?_
      try go_wp2
      refine bodyPost_ret (results_ctt rfl _ _ gb241 28 #[.int .i64 t245, .slice Ao61 x251001_4.length co61] (0, 0) _ rfl (by (with_reducible repeat (first | refine blk_drewN ?_ _ | refine blk_drew ?_ | refine blk_alloc ?_ _)); refine blk_put (cs := #[.int .i64 t245, .slice none 0 0]) ?_ 1 _ rfl; (with_reducible repeat (first | refine blk_drewN ?_ _ | refine blk_drew ?_ | refine blk_alloc ?_ _)); refine blk_put (cs := #[.int .i64 0, .slice none 0 0]) ?_ 0 _ rfl; (with_reducible repeat (first | refine blk_drewN ?_ _ | refine blk_drew ?_ | refine blk_alloc ?_ _)); exact BK241.out) Try.underlying28 rfl (by kernel_rfl)) rfl ?_
      exact ⟨_, ers, by (with_reducible repeat (first | apply Kd.R_alloc | apply Kd.R_drewN | apply Kd.R_drew)); exact Kd.R_mono (Kd.R_far (p := ⟨gb241, 1, none⟩) (Kd.R_far (p := ⟨gb241, 0, none⟩) (Kd.R_types HO_251001.out BK241.out (by decide)) (fun _ hk => hk.2) (.int .i64 t245)) (fun _ hk => hk.2) (.slice Ao61 x251001_4.length co61)) (fun _ hk => trivial), by repeat (first | (with_reducible first | exact HB.out | apply bwA | apply bwN | apply bwD | refine below_set ?_ (IsS121.ge HI244.out) | refine below_set ?_ GE241.out | refine below_set ?_ GE250.out) | exact HB.out)⟩

end Go.Proofs.Ytpcckoljocpchaa.QFnAddPick
