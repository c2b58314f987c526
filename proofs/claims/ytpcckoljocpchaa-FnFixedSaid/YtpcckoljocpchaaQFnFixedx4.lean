-- Written by a program of this session (mk.py). Lean checks it.
import Derived.Test.YtpcckoljocpchaaQFnFixedx0
import Derived.Test.YtpcckoljocpchaaQFnFixedx2
import Derived.Test.YtpcckoljocpchaaQFnFixedx3
namespace Go.Proofs.Ytpcckoljocpchaa.QFnFixed
open Go.RowKit Go.Proofs.YtpcckoljocpchaaW.PrintWords Go.Proofs.YtpcckoljocpchaaW.PrintLast Go.Proofs.YtpcckoljocpchaaW.PrintMore
attribute [local go_sem] max2_int min2_int max_two min_two max_three min_three max_four min_four   -- for this text's walks alone
set_option linter.unusedVariables false
set_option linter.unusedSimpArgs false

/-! ### spec_Fixed: function 24 -/
mutual
def spec_Fixed.j0 : Nat → Int → Int → Int → Bool → Int → List (S92) → Option (Int × (List (S92)) × Int)
 | 0, _, _, _, _, _, _ => none
 | k + 1, x1, x2, x3, x40, x153000, x153001 => if x40 = true then (some (0, ([] : List (S92)), (-1))) else (spec_Fixed.l0 k x1 x2 x3 (([0] : List Int)) 0 x153000 x153001 x153000)
def spec_Fixed.l0 : Nat → Int → Int → Int → List Int → Int → Int → List (S92) → Int → Option (Int × (List (S92)) × Int)
 | 0, _, _, _, _, _, _, _, _ => none
 | k + 1, x1, x2, x3, x11, x12, x153000, x153001, x159000 => if x12 < x153000 then (if x12 = x2 then (if x11.length < 17592186044416 then (spec_Fixed.l0 k x1 x2 x3 (x11 ++ [x3]) (wrap64 (x12 + 1)) x153000 x153001 x159000) else (none)) else (if x11.length < 17592186044416 then (spec_Fixed.l0 k x1 x2 x3 (x11 ++ [wrap64 (2 * (wrap64 (1 + x12)))]) (wrap64 (x12 + 1)) x153000 x153001 x159000) else (none))) else (spec_Fixed.l1 k x1 x11 0 x153000 x153001 x159000 ([] : List (S92)))
def spec_Fixed.l1 : Nat → Int → List Int → Int → Int → List (S92) → Int → List (S92) → Option (Int × (List (S92)) × Int)
 | 0, _, _, _, _, _, _, _ => none
 | k + 1, x1, x11, x13, x153000, x153001, x159000, x159001 => if x13 < (x153001.length : Int) then (if 0 ≤ x13 then (if 0 ≤ (wrap64 (Int.tdiv ((rd_T92 x153001 x13).f0) 2)) then (if (wrap64 (Int.tdiv ((rd_T92 x153001 x13).f0) 2)) < (x11.length : Int) then (if (Int.tmod ((rd_T92 x153001 x13).f0) 2) = 1 then ((spec_l7Not.f (rd x11 (wrap64 (Int.tdiv ((rd_T92 x153001 x13).f0) 2)))).bind fun t173 => (spec_Fixed.j3 k x1 x11 x13 t173 x153000 x153001 x159000 x159001)) else (spec_Fixed.j3 k x1 x11 x13 (rd x11 (wrap64 (Int.tdiv ((rd_T92 x153001 x13).f0) 2))) x153000 x153001 x159000 x159001)) else (none)) else (none)) else (none)) else (if 0 ≤ (wrap64 (Int.tdiv x1 2)) then (if (wrap64 (Int.tdiv x1 2)) < (x11.length : Int) then (if (Int.tmod x1 2) = 1 then ((spec_l7Not.f (rd x11 (wrap64 (Int.tdiv x1 2)))).bind fun t169 => (some (x159000, x159001, t169))) else (some (x159000, x159001, rd x11 (wrap64 (Int.tdiv x1 2))))) else (none)) else (none))
def spec_Fixed.j3 : Nat → Int → List Int → Int → Int → Int → List (S92) → Int → List (S92) → Option (Int × (List (S92)) × Int)
 | 0, _, _, _, _, _, _, _, _ => none
 | k + 1, x1, x11, x13, x14, x153000, x153001, x159000, x159001 => if 0 ≤ x13 then (if x13 < (x153001.length : Int) then (if 0 ≤ (wrap64 (Int.tdiv ((rd_T92 x153001 x13).f1) 2)) then (if (wrap64 (Int.tdiv ((rd_T92 x153001 x13).f1) 2)) < (x11.length : Int) then (if (Int.tmod ((rd_T92 x153001 x13).f1) 2) = 1 then ((spec_l7Not.f (rd x11 (wrap64 (Int.tdiv ((rd_T92 x153001 x13).f1) 2)))).bind fun t177 => ((spec_l7And.f k x159000 x159001 x14 t177).bind fun bt178 => (if x11.length < 17592186044416 then (spec_Fixed.l1 k x1 (x11 ++ [bt178.2.2]) (wrap64 (x13 + 1)) x153000 x153001 bt178.1 bt178.2.1) else (none)))) else ((spec_l7And.f k x159000 x159001 x14 (rd x11 (wrap64 (Int.tdiv ((rd_T92 x153001 x13).f1) 2)))).bind fun bt187 => (if x11.length < 17592186044416 then (spec_Fixed.l1 k x1 (x11 ++ [bt187.2.2]) (wrap64 (x13 + 1)) x153000 x153001 bt187.1 bt187.2.1) else (none)))) else (none)) else (none)) else (none)) else (none)
end
def spec_Fixed.f (k : Nat) (a0_0 : Int) (l0_1 : List (S92)) (a1 : Int) (a2 : Int) (a3 : Int) : Option (Int × (List (S92)) × Int) := (spec_CircuitValid.f k a0_0 l0_1).bind fun t154 => (if t154 = true then ((spec_l7Edge.f a0_0 l0_1 a1).bind fun t155 => (if t155 = true then ((spec_l1In.f a2 0 (wrap64 (a0_0 - 1))).bind fun t156 => (if t156 = true then ((spec_l1In.f a3 0 1).bind fun t157 => (spec_Fixed.j0 k a1 a2 a3 (!t157) a0_0 l0_1)) else (spec_Fixed.j0 k a1 a2 a3 true a0_0 l0_1))) else (spec_Fixed.j0 k a1 a2 a3 true a0_0 l0_1))) else (spec_Fixed.j0 k a1 a2 a3 true a0_0 l0_1))
theorem spec_Fixed.mono_l : ∀ k, (∀ y0 y1 y2 y3 y4 y5, LeO (spec_Fixed.j0 k y0 y1 y2 y3 y4 y5) (spec_Fixed.j0 (k + 1) y0 y1 y2 y3 y4 y5)) ∧ (∀ y0 y1 y2 y3 y4 y5 y6 y7, LeO (spec_Fixed.l0 k y0 y1 y2 y3 y4 y5 y6 y7) (spec_Fixed.l0 (k + 1) y0 y1 y2 y3 y4 y5 y6 y7)) ∧ (∀ y0 y1 y2 y3 y4 y5 y6, LeO (spec_Fixed.l1 k y0 y1 y2 y3 y4 y5 y6) (spec_Fixed.l1 (k + 1) y0 y1 y2 y3 y4 y5 y6)) ∧ (∀ y0 y1 y2 y3 y4 y5 y6 y7, LeO (spec_Fixed.j3 k y0 y1 y2 y3 y4 y5 y6 y7) (spec_Fixed.j3 (k + 1) y0 y1 y2 y3 y4 y5 y6 y7))
 | 0 => ⟨fun _ _ _ _ _ _ r h => by simp [spec_Fixed.j0] at h, fun _ _ _ _ _ _ _ _ r h => by simp [spec_Fixed.l0] at h, fun _ _ _ _ _ _ _ r h => by simp [spec_Fixed.l1] at h, fun _ _ _ _ _ _ _ _ r h => by simp [spec_Fixed.j3] at h⟩
 | k + 1 => by
  obtain ⟨ih0, ih1, ih2, ih3⟩ := spec_Fixed.mono_l k
  refine ⟨?_, ?_, ?_, ?_⟩
  ·intro y0 y1 y2 y3 y4 y5
   unfold spec_Fixed.j0
   repeat' first
   | (with_reducible exact ih0 _ _ _ _ _ _)
   | (with_reducible exact ih1 _ _ _ _ _ _ _ _)
   | (with_reducible exact ih2 _ _ _ _ _ _ _)
   | (with_reducible exact ih3 _ _ _ _ _ _ _ _)
   | (with_reducible exact spec_CircuitValid.mono _ _ _)
   | (with_reducible exact spec_l7And.mono _ _ _ _ _)
   | (with_reducible exact LeO.refl _)
   | (with_reducible exact LeO.none _)
   | (with_reducible refine LeO.ite ?_ ?_)
   | (with_reducible refine LeO.bind ?_ (fun _ => ?_))
   | exact ih0 _ _ _ _ _ _
   | exact ih1 _ _ _ _ _ _ _ _
   | exact ih2 _ _ _ _ _ _ _
   | exact ih3 _ _ _ _ _ _ _ _
   | exact spec_CircuitValid.mono _ _ _
   | exact spec_l7And.mono _ _ _ _ _
   | exact LeO.none _
   | refine LeO.ite ?_ ?_
   | refine LeO.bind ?_ (fun _ => ?_)
  ·intro y0 y1 y2 y3 y4 y5 y6 y7
   unfold spec_Fixed.l0
   repeat' first
   | (with_reducible exact ih0 _ _ _ _ _ _)
   | (with_reducible exact ih1 _ _ _ _ _ _ _ _)
   | (with_reducible exact ih2 _ _ _ _ _ _ _)
   | (with_reducible exact ih3 _ _ _ _ _ _ _ _)
   | (with_reducible exact spec_CircuitValid.mono _ _ _)
   | (with_reducible exact spec_l7And.mono _ _ _ _ _)
   | (with_reducible exact LeO.refl _)
   | (with_reducible exact LeO.none _)
   | (with_reducible refine LeO.ite ?_ ?_)
   | (with_reducible refine LeO.bind ?_ (fun _ => ?_))
   | exact ih0 _ _ _ _ _ _
   | exact ih1 _ _ _ _ _ _ _ _
   | exact ih2 _ _ _ _ _ _ _
   | exact ih3 _ _ _ _ _ _ _ _
   | exact spec_CircuitValid.mono _ _ _
   | exact spec_l7And.mono _ _ _ _ _
   | exact LeO.none _
   | refine LeO.ite ?_ ?_
   | refine LeO.bind ?_ (fun _ => ?_)
  ·intro y0 y1 y2 y3 y4 y5 y6
   unfold spec_Fixed.l1
   repeat' first
   | (with_reducible exact ih0 _ _ _ _ _ _)
   | (with_reducible exact ih1 _ _ _ _ _ _ _ _)
   | (with_reducible exact ih2 _ _ _ _ _ _ _)
   | (with_reducible exact ih3 _ _ _ _ _ _ _ _)
   | (with_reducible exact spec_CircuitValid.mono _ _ _)
   | (with_reducible exact spec_l7And.mono _ _ _ _ _)
   | (with_reducible exact LeO.refl _)
   | (with_reducible exact LeO.none _)
   | (with_reducible refine LeO.ite ?_ ?_)
   | (with_reducible refine LeO.bind ?_ (fun _ => ?_))
   | exact ih0 _ _ _ _ _ _
   | exact ih1 _ _ _ _ _ _ _ _
   | exact ih2 _ _ _ _ _ _ _
   | exact ih3 _ _ _ _ _ _ _ _
   | exact spec_CircuitValid.mono _ _ _
   | exact spec_l7And.mono _ _ _ _ _
   | exact LeO.none _
   | refine LeO.ite ?_ ?_
   | refine LeO.bind ?_ (fun _ => ?_)
  ·intro y0 y1 y2 y3 y4 y5 y6 y7
   unfold spec_Fixed.j3
   repeat' first
   | (with_reducible exact ih0 _ _ _ _ _ _)
   | (with_reducible exact ih1 _ _ _ _ _ _ _ _)
   | (with_reducible exact ih2 _ _ _ _ _ _ _)
   | (with_reducible exact ih3 _ _ _ _ _ _ _ _)
   | (with_reducible exact spec_CircuitValid.mono _ _ _)
   | (with_reducible exact spec_l7And.mono _ _ _ _ _)
   | (with_reducible exact LeO.refl _)
   | (with_reducible exact LeO.none _)
   | (with_reducible refine LeO.ite ?_ ?_)
   | (with_reducible refine LeO.bind ?_ (fun _ => ?_))
   | exact ih0 _ _ _ _ _ _
   | exact ih1 _ _ _ _ _ _ _ _
   | exact ih2 _ _ _ _ _ _ _
   | exact ih3 _ _ _ _ _ _ _ _
   | exact spec_CircuitValid.mono _ _ _
   | exact spec_l7And.mono _ _ _ _ _
   | exact LeO.none _
   | refine LeO.ite ?_ ?_
   | refine LeO.bind ?_ (fun _ => ?_)
theorem spec_Fixed.mono : ∀ a0 a1 a2 a3 a4 k, LeO (spec_Fixed.f k a0 a1 a2 a3 a4) (spec_Fixed.f (k + 1) a0 a1 a2 a3 a4) := by
 intro a0 a1 a2 a3 a4 k
 obtain ⟨ih0, ih1, ih2, ih3⟩ := spec_Fixed.mono_l k
 unfold spec_Fixed.f
 repeat' first
   | (with_reducible exact ih0 _ _ _ _ _ _)
   | (with_reducible exact ih1 _ _ _ _ _ _ _ _)
   | (with_reducible exact ih2 _ _ _ _ _ _ _)
   | (with_reducible exact ih3 _ _ _ _ _ _ _ _)
   | (with_reducible exact spec_CircuitValid.mono _ _ _)
   | (with_reducible exact spec_l7And.mono _ _ _ _ _)
   | (with_reducible exact LeO.refl _)
   | (with_reducible exact LeO.none _)
   | (with_reducible refine LeO.ite ?_ ?_)
   | (with_reducible refine LeO.bind ?_ (fun _ => ?_))
   | exact ih0 _ _ _ _ _ _
   | exact ih1 _ _ _ _ _ _ _ _
   | exact ih2 _ _ _ _ _ _ _
   | exact ih3 _ _ _ _ _ _ _ _
   | exact spec_CircuitValid.mono _ _ _
   | exact spec_l7And.mono _ _ _ _ _
   | exact LeO.none _
   | refine LeO.ite ?_ ?_
   | refine LeO.bind ?_ (fun _ => ?_)
set_option maxHeartbeats 8000000 in
set_option maxRecDepth 100000 in
theorem spec_Fixed.calls (k : Nat) (a0_0 : Int) (A0_1 : Option Addr) (c0_1 : Nat) (l0_1 : List (S92)) (a1 : Int) (a2 : Int) (a3 : Int) (r1 : Int) (r2 : List (S92)) (r3 : Int) (w : World) (hr0_1 : Kd.C k92 w A0_1 l0_1.length l0_1) (hc0_1 : l0_1.length ≤ c0_1) (h : spec_Fixed.f k a0_0 l0_1 a1 a2 a3 = some (r1, r2, r3)) :
  Calls Try.prog 24 #[.agg #[.int .i64 a0_0, .slice A0_1 l0_1.length c0_1], .int .i64 a1, .int .i64 a2, .int .i64 a3] w fun e w' => ∃ v1_ : Value, e = .returned (.tuple #[.agg #[.int .i64 r1, v1_], .int .i64 r3]) ∧ Kd.R k92 92 w' w.heap.size (fun _ => True) v1_ r2 ∧ Below w.heap.size w w' := by
 have hu28 := Try.underlying28
 have HR0_1 := Aside0.mk hr0_1
 have HC0_1 := Aside0.mk hc0_1
 clear hr0_1 hc0_1
 have HB := Aside0.mk (Below.refl w.heap.size w)
 have H : ((spec_CircuitValid.f k a0_0 l0_1).bind fun t154 => (if t154 = true then ((spec_l7Edge.f a0_0 l0_1 a1).bind fun t155 => (if t155 = true then ((spec_l1In.f a2 0 (wrap64 (a0_0 - 1))).bind fun t156 => (if t156 = true then ((spec_l1In.f a3 0 1).bind fun t157 => (spec_Fixed.j0 k a1 a2 a3 (!t157) a0_0 l0_1)) else (spec_Fixed.j0 k a1 a2 a3 true a0_0 l0_1))) else (spec_Fixed.j0 k a1 a2 a3 true a0_0 l0_1))) else (spec_Fixed.j0 k a1 a2 a3 true a0_0 l0_1))) = some (r1, r2, r3) := h
 clear h
 have HC5 := Aside0.mk H
 clear H
 go_enter Try.func24, Try.ntmps24
 go_upto_region 1 with (first | ((with_reducible refine gate_dst (N := 4) rfl ?_); refine box_event ?hg (N := 4) ?hd (cs := #[.int .i64 a0_0, .slice A0_1 l0_1.length c0_1]) (t := 28) ?hr ?_; (case hd => rfl); (case hg => rfl); (case hr => first | (go_simp; done) | (go_simp; rfl)); intro gb152 hg w6 hbox hb; have n0_ := Aside0.mk (below_step hbB hb); have n1_ := Aside0.mk (hbox); have n2_ := Aside0.mk ((gwb hg (below_size hbB) : w.heap.size ≤ gb152)); have n3_ := n2_; clear HB; have HB := n0_; have BK152 := n1_; have GW152 := n2_; have GE152 := n3_; clear n0_ n1_ n2_ n3_; clear hb hbox hg) | ((with_reducible refine gate_dst (N := 8) rfl ?_); refine box_event ?hg (N := 8) ?hd (cs := #[.int .i64 0, .slice none 0 0]) (t := 28) ?hr ?_; (case hd => rfl); (case hg => rfl); (case hr => first | (go_simp; done) | (go_simp; rfl)); intro gb153 hg w7 hbox hb; have n0_ := Aside0.mk (blk_below (g := gb152) (o := .cells #[.int .i64 a0_0, .slice A0_1 l0_1.length c0_1] 28 (0, 0)) (bvK BK152.out) hb); have n1_ := Aside0.mk (below_step hbC hb); have n2_ := Aside0.mk (hbox); have n3_ := Aside0.mk ((gwb hg (below_size hbC) : w.heap.size ≤ gb153)); have n4_ := n3_; have n5_ := Aside0.mk ((by rw [hg]; exact Nat.ne_of_lt (blk_lt (g := gb152) (o := .cells #[.int .i64 a0_0, .slice A0_1 l0_1.length c0_1] 28 (0, 0)) (bvK BK152.out)) : gb152 ≠ gb153)); have n6_ := Aside0.mk ((by rw [hg]; exact Nat.ne_of_gt (blk_lt (g := gb152) (o := .cells #[.int .i64 a0_0, .slice A0_1 l0_1.length c0_1] 28 (0, 0)) (bvK BK152.out)) : gb153 ≠ gb152)); clear BK152; clear HB; have BK152 := n0_; have HB := n1_; have BK153 := n2_; have GW153 := n3_; have GE153 := n4_; have NB152_153 := n5_; have NB153_152 := n6_; clear n0_ n1_ n2_ n3_ n4_ n5_ n6_; clear hb hbox hg))
 (try simp only [Act.put, List.setIfInBounds_toArray, List.set_cons_zero, List.set_cons_succ])
 go_cut [40] (fun v40 wc => ∃ (kq : Nat) (x40_4 : Bool), v40 = .bool x40_4 ∧ Aside0 (spec_Fixed.j0 kq a1 a2 a3 x40_4 a0_0 l0_1 = some (r1, r2, r3)) ∧ Aside0 (kq ≤ k) ∧ Aside0 (wc.heap[gb152]? = some (.cells #[.int .i64 a0_0, (.slice A0_1 l0_1.length c0_1)] 28 (0, 0))) ∧ Aside0 (wc.heap[gb153]? = some (.cells #[.int .i64 0, (.slice none 0 0)] 28 (0, 0))) ∧ Aside0 (Below w.heap.size w wc))
 case first =>
  have H := HC5.out
  clear HC5
  replace H := Option.bind_eq_some_iff.mp H
  obtain ⟨t154, A80, H⟩ := H
  replace H : (if t154 = true then ((spec_l7Edge.f a0_0 l0_1 a1).bind fun t155 => (if t155 = true then ((spec_l1In.f a2 0 (wrap64 (a0_0 - 1))).bind fun t156 => (if t156 = true then ((spec_l1In.f a3 0 1).bind fun t157 => (spec_Fixed.j0 k a1 a2 a3 (!t157) a0_0 l0_1)) else (spec_Fixed.j0 k a1 a2 a3 true a0_0 l0_1))) else (spec_Fixed.j0 k a1 a2 a3 true a0_0 l0_1))) else (spec_Fixed.j0 k a1 a2 a3 true a0_0 l0_1)) = some (r1, r2, r3) := H
  have A8 := Aside0.mk A80
  clear A80
  by_cases c9 : t154 = true
  ·subst c9
   have H1 : ((spec_l7Edge.f a0_0 l0_1 a1).bind fun t155 => (if t155 = true then ((spec_l1In.f a2 0 (wrap64 (a0_0 - 1))).bind fun t156 => (if t156 = true then ((spec_l1In.f a3 0 1).bind fun t157 => (spec_Fixed.j0 k a1 a2 a3 (!t157) a0_0 l0_1)) else (spec_Fixed.j0 k a1 a2 a3 true a0_0 l0_1))) else (spec_Fixed.j0 k a1 a2 a3 true a0_0 l0_1))) = some (r1, r2, r3) := by rw [if_pos rfl] at H; exact H
   clear H
   have H := H1
   clear H1
   replace H := Option.bind_eq_some_iff.mp H
   obtain ⟨t155, A100, H⟩ := H
   replace H : (if t155 = true then ((spec_l1In.f a2 0 (wrap64 (a0_0 - 1))).bind fun t156 => (if t156 = true then ((spec_l1In.f a3 0 1).bind fun t157 => (spec_Fixed.j0 k a1 a2 a3 (!t157) a0_0 l0_1)) else (spec_Fixed.j0 k a1 a2 a3 true a0_0 l0_1))) else (spec_Fixed.j0 k a1 a2 a3 true a0_0 l0_1)) = some (r1, r2, r3) := H
   have A10 := Aside0.mk A100
   clear A100
   by_cases c11 : t155 = true
   ·subst c11
    have H1 : ((spec_l1In.f a2 0 (wrap64 (a0_0 - 1))).bind fun t156 => (if t156 = true then ((spec_l1In.f a3 0 1).bind fun t157 => (spec_Fixed.j0 k a1 a2 a3 (!t157) a0_0 l0_1)) else (spec_Fixed.j0 k a1 a2 a3 true a0_0 l0_1))) = some (r1, r2, r3) := by rw [if_pos rfl] at H; exact H
    clear H
    have H := H1
    clear H1
    replace H := Option.bind_eq_some_iff.mp H
    obtain ⟨t156, A120, H⟩ := H
    replace H : (if t156 = true then ((spec_l1In.f a3 0 1).bind fun t157 => (spec_Fixed.j0 k a1 a2 a3 (!t157) a0_0 l0_1)) else (spec_Fixed.j0 k a1 a2 a3 true a0_0 l0_1)) = some (r1, r2, r3) := H
    have A12 := Aside0.mk A120
    clear A120
    by_cases c13 : t156 = true
    ·subst c13
     have H1 : ((spec_l1In.f a3 0 1).bind fun t157 => (spec_Fixed.j0 k a1 a2 a3 (!t157) a0_0 l0_1)) = some (r1, r2, r3) := by rw [if_pos rfl] at H; exact H
     clear H
     have H := H1
     clear H1
     replace H := Option.bind_eq_some_iff.mp H
     obtain ⟨t157, A140, H⟩ := H
     replace H : (spec_Fixed.j0 k a1 a2 a3 (!t157) a0_0 l0_1) = some (r1, r2, r3) := H
     have A14 := Aside0.mk A140
     clear A140
     have H' := Aside0.mk H
     clear H
     have hnb15 := NB152_153.out
     have hnc15 := NB153_152.out
     have hcz16_0 : w7.cell? ⟨gb152, 0, none⟩ = some (.int .i64 a0_0) := (blk_cell BK152.out 0).trans rfl
     have hcz16_1 : w7.cell? ⟨gb152, 1, none⟩ = some (.slice A0_1 l0_1.length c0_1) := (blk_cell BK152.out 1).trans rfl
     have hfz16_0 := blk_frozen BK152.out 0
     have hfz16_1 := blk_frozen BK152.out 1
     go_wp2_with (first | ((with_reducible refine gate_callee (f := 53) rfl ?_); refine goesL_ (some 20) rfl rfl Try.func53 (by kernel_rfl) rfl #[.agg #[.int .i64 a0_0, .slice A0_1 l0_1.length c0_1]] rfl lmB ?_; (with_reducible refine (spec_CircuitValid.calls k a0_0 _ _ l0_1 true _ ?side1 ?side2 A8.out).mono ?_); (case side1 => exact kcR (Kd.C_below HR0_1.out HB.out)); (case side2 => exact HC0_1.out); rintro e w17 ⟨rfl, hb⟩; refine ⟨_, rfl, ?_⟩; have n0_ := Aside0.mk (blk_below (g := gb152) (o := .cells #[.int .i64 a0_0, .slice A0_1 l0_1.length c0_1] 28 (0, 0)) (bvK BK152.out) hb); have n1_ := Aside0.mk (blk_below (g := gb153) (o := .cells #[.int .i64 0, .slice none 0 0] 28 (0, 0)) (bvK BK153.out) hb); have n2_ := Aside0.mk (below_step hbC hb); clear BK152; clear BK153; clear HB; have BK152 := n0_; have BK153 := n1_; have HB := n2_; clear n0_ n1_ n2_; (try clear hb); (try clear hb2); (try clear hk); (try clear hi); have hcz18_0 : w17.cell? ⟨gb152, 0, none⟩ = some (.int .i64 a0_0) := (blk_cell BK152.out 0).trans rfl; have hcz18_1 : w17.cell? ⟨gb152, 1, none⟩ = some (.slice A0_1 l0_1.length c0_1) := (blk_cell BK152.out 1).trans rfl; have hfz18_0 := blk_frozen BK152.out 0; have hfz18_1 := blk_frozen BK152.out 1) | (go_at_call 54; (with_reducible refine (spec_l7Edge.calls a0_0 _ _ l0_1 a1 true _ ?side1 ?side2 A10.out).mono ?_); (case side1 => exact kcR (Kd.C_below HR0_1.out HB.out)); (case side2 => exact HC0_1.out); rintro e w19 ⟨rfl, hb⟩; have n0_ := Aside0.mk (blk_below (g := gb152) (o := .cells #[.int .i64 a0_0, .slice A0_1 l0_1.length c0_1] 28 (0, 0)) (bvK BK152.out) hb); have n1_ := Aside0.mk (blk_below (g := gb153) (o := .cells #[.int .i64 0, .slice none 0 0] 28 (0, 0)) (bvK BK153.out) hb); have n2_ := Aside0.mk (below_step hbC hb); clear BK152; clear BK153; clear HB; have BK152 := n0_; have BK153 := n1_; have HB := n2_; clear n0_ n1_ n2_; (try clear hb); (try clear hb2); (try clear hk); (try clear hi); have hcz20_0 : w19.cell? ⟨gb152, 0, none⟩ = some (.int .i64 a0_0) := (blk_cell BK152.out 0).trans rfl; have hcz20_1 : w19.cell? ⟨gb152, 1, none⟩ = some (.slice A0_1 l0_1.length c0_1) := (blk_cell BK152.out 1).trans rfl; have hfz20_0 := blk_frozen BK152.out 0; have hfz20_1 := blk_frozen BK152.out 1) | (go_at_call 74; (with_reducible refine (spec_l1In.calls a2 0 (wrap64 (a0_0 - 1)) true _ A12.out).mono ?_); rintro e w' ⟨rfl, ⟨nd, rfl⟩⟩) | (go_at_call 74; (with_reducible refine (spec_l1In.calls a3 0 1 t157 _ A14.out).mono ?_); rintro e w' ⟨rfl, ⟨nd, rfl⟩⟩))
     go_meet
     case rel => exact ⟨_, (!t157), rsd, H', ⟨by first | omega | exact Nat.le_refl _⟩, ⟨bvK BK152.out⟩, ⟨bvK BK153.out⟩, ⟨hbC⟩⟩
    ·replace c13 := Bool.eq_false_iff.mpr c13
     subst c13
     have H1 : (spec_Fixed.j0 k a1 a2 a3 true a0_0 l0_1) = some (r1, r2, r3) := by rw [if_neg (show ¬ (false = true) by decide)] at H; exact H
     clear H
     have H := H1
     clear H1
     have H' := Aside0.mk H
     clear H
     have hnb21 := NB152_153.out
     have hnc21 := NB153_152.out
     have hcz22_0 : w7.cell? ⟨gb152, 0, none⟩ = some (.int .i64 a0_0) := (blk_cell BK152.out 0).trans rfl
     have hcz22_1 : w7.cell? ⟨gb152, 1, none⟩ = some (.slice A0_1 l0_1.length c0_1) := (blk_cell BK152.out 1).trans rfl
     have hfz22_0 := blk_frozen BK152.out 0
     have hfz22_1 := blk_frozen BK152.out 1
     go_wp2_with (first | ((with_reducible refine gate_callee (f := 53) rfl ?_); refine goesL_ (some 20) rfl rfl Try.func53 (by kernel_rfl) rfl #[.agg #[.int .i64 a0_0, .slice A0_1 l0_1.length c0_1]] rfl lmB ?_; (with_reducible refine (spec_CircuitValid.calls k a0_0 _ _ l0_1 true _ ?side1 ?side2 A8.out).mono ?_); (case side1 => exact kcR (Kd.C_below HR0_1.out HB.out)); (case side2 => exact HC0_1.out); rintro e w23 ⟨rfl, hb⟩; refine ⟨_, rfl, ?_⟩; have n0_ := Aside0.mk (blk_below (g := gb152) (o := .cells #[.int .i64 a0_0, .slice A0_1 l0_1.length c0_1] 28 (0, 0)) (bvK BK152.out) hb); have n1_ := Aside0.mk (blk_below (g := gb153) (o := .cells #[.int .i64 0, .slice none 0 0] 28 (0, 0)) (bvK BK153.out) hb); have n2_ := Aside0.mk (below_step hbC hb); clear BK152; clear BK153; clear HB; have BK152 := n0_; have BK153 := n1_; have HB := n2_; clear n0_ n1_ n2_; (try clear hb); (try clear hb2); (try clear hk); (try clear hi); have hcz24_0 : w23.cell? ⟨gb152, 0, none⟩ = some (.int .i64 a0_0) := (blk_cell BK152.out 0).trans rfl; have hcz24_1 : w23.cell? ⟨gb152, 1, none⟩ = some (.slice A0_1 l0_1.length c0_1) := (blk_cell BK152.out 1).trans rfl; have hfz24_0 := blk_frozen BK152.out 0; have hfz24_1 := blk_frozen BK152.out 1) | (go_at_call 54; (with_reducible refine (spec_l7Edge.calls a0_0 _ _ l0_1 a1 true _ ?side1 ?side2 A10.out).mono ?_); (case side1 => exact kcR (Kd.C_below HR0_1.out HB.out)); (case side2 => exact HC0_1.out); rintro e w25 ⟨rfl, hb⟩; have n0_ := Aside0.mk (blk_below (g := gb152) (o := .cells #[.int .i64 a0_0, .slice A0_1 l0_1.length c0_1] 28 (0, 0)) (bvK BK152.out) hb); have n1_ := Aside0.mk (blk_below (g := gb153) (o := .cells #[.int .i64 0, .slice none 0 0] 28 (0, 0)) (bvK BK153.out) hb); have n2_ := Aside0.mk (below_step hbC hb); clear BK152; clear BK153; clear HB; have BK152 := n0_; have BK153 := n1_; have HB := n2_; clear n0_ n1_ n2_; (try clear hb); (try clear hb2); (try clear hk); (try clear hi); have hcz26_0 : w25.cell? ⟨gb152, 0, none⟩ = some (.int .i64 a0_0) := (blk_cell BK152.out 0).trans rfl; have hcz26_1 : w25.cell? ⟨gb152, 1, none⟩ = some (.slice A0_1 l0_1.length c0_1) := (blk_cell BK152.out 1).trans rfl; have hfz26_0 := blk_frozen BK152.out 0; have hfz26_1 := blk_frozen BK152.out 1) | (go_at_call 74; (with_reducible refine (spec_l1In.calls a2 0 (wrap64 (a0_0 - 1)) false _ A12.out).mono ?_); rintro e w' ⟨rfl, ⟨nd, rfl⟩⟩))
     go_meet
     case rel => exact ⟨_, (true), rsd, H', ⟨by first | omega | exact Nat.le_refl _⟩, ⟨bvK BK152.out⟩, ⟨bvK BK153.out⟩, ⟨hbC⟩⟩
   ·replace c11 := Bool.eq_false_iff.mpr c11
    subst c11
    have H1 : (spec_Fixed.j0 k a1 a2 a3 true a0_0 l0_1) = some (r1, r2, r3) := by rw [if_neg (show ¬ (false = true) by decide)] at H; exact H
    clear H
    have H := H1
    clear H1
    have H' := Aside0.mk H
    clear H
    have hnb27 := NB152_153.out
    have hnc27 := NB153_152.out
    have hcz28_0 : w7.cell? ⟨gb152, 0, none⟩ = some (.int .i64 a0_0) := (blk_cell BK152.out 0).trans rfl
    have hcz28_1 : w7.cell? ⟨gb152, 1, none⟩ = some (.slice A0_1 l0_1.length c0_1) := (blk_cell BK152.out 1).trans rfl
    have hfz28_0 := blk_frozen BK152.out 0
    have hfz28_1 := blk_frozen BK152.out 1
    go_wp2_with (first | ((with_reducible refine gate_callee (f := 53) rfl ?_); refine goesL_ (some 20) rfl rfl Try.func53 (by kernel_rfl) rfl #[.agg #[.int .i64 a0_0, .slice A0_1 l0_1.length c0_1]] rfl lmB ?_; (with_reducible refine (spec_CircuitValid.calls k a0_0 _ _ l0_1 true _ ?side1 ?side2 A8.out).mono ?_); (case side1 => exact kcR (Kd.C_below HR0_1.out HB.out)); (case side2 => exact HC0_1.out); rintro e w29 ⟨rfl, hb⟩; refine ⟨_, rfl, ?_⟩; have n0_ := Aside0.mk (blk_below (g := gb152) (o := .cells #[.int .i64 a0_0, .slice A0_1 l0_1.length c0_1] 28 (0, 0)) (bvK BK152.out) hb); have n1_ := Aside0.mk (blk_below (g := gb153) (o := .cells #[.int .i64 0, .slice none 0 0] 28 (0, 0)) (bvK BK153.out) hb); have n2_ := Aside0.mk (below_step hbC hb); clear BK152; clear BK153; clear HB; have BK152 := n0_; have BK153 := n1_; have HB := n2_; clear n0_ n1_ n2_; (try clear hb); (try clear hb2); (try clear hk); (try clear hi); have hcz30_0 : w29.cell? ⟨gb152, 0, none⟩ = some (.int .i64 a0_0) := (blk_cell BK152.out 0).trans rfl; have hcz30_1 : w29.cell? ⟨gb152, 1, none⟩ = some (.slice A0_1 l0_1.length c0_1) := (blk_cell BK152.out 1).trans rfl; have hfz30_0 := blk_frozen BK152.out 0; have hfz30_1 := blk_frozen BK152.out 1) | (go_at_call 54; (with_reducible refine (spec_l7Edge.calls a0_0 _ _ l0_1 a1 false _ ?side1 ?side2 A10.out).mono ?_); (case side1 => exact kcR (Kd.C_below HR0_1.out HB.out)); (case side2 => exact HC0_1.out); rintro e w31 ⟨rfl, hb⟩; have n0_ := Aside0.mk (blk_below (g := gb152) (o := .cells #[.int .i64 a0_0, .slice A0_1 l0_1.length c0_1] 28 (0, 0)) (bvK BK152.out) hb); have n1_ := Aside0.mk (blk_below (g := gb153) (o := .cells #[.int .i64 0, .slice none 0 0] 28 (0, 0)) (bvK BK153.out) hb); have n2_ := Aside0.mk (below_step hbC hb); clear BK152; clear BK153; clear HB; have BK152 := n0_; have BK153 := n1_; have HB := n2_; clear n0_ n1_ n2_; (try clear hb); (try clear hb2); (try clear hk); (try clear hi)))
    go_meet
    case rel => exact ⟨_, (true), rsd, H', ⟨by first | omega | exact Nat.le_refl _⟩, ⟨bvK BK152.out⟩, ⟨bvK BK153.out⟩, ⟨hbC⟩⟩
  ·replace c9 := Bool.eq_false_iff.mpr c9
   subst c9
   have H1 : (spec_Fixed.j0 k a1 a2 a3 true a0_0 l0_1) = some (r1, r2, r3) := by rw [if_neg (show ¬ (false = true) by decide)] at H; exact H
   clear H
   have H := H1
   clear H1
   have H' := Aside0.mk H
   clear H
   have hnb32 := NB152_153.out
   have hnc32 := NB153_152.out
   have hcz33_0 : w7.cell? ⟨gb152, 0, none⟩ = some (.int .i64 a0_0) := (blk_cell BK152.out 0).trans rfl
   have hcz33_1 : w7.cell? ⟨gb152, 1, none⟩ = some (.slice A0_1 l0_1.length c0_1) := (blk_cell BK152.out 1).trans rfl
   have hfz33_0 := blk_frozen BK152.out 0
   have hfz33_1 := blk_frozen BK152.out 1
   go_wp2_with (first | ((with_reducible refine gate_callee (f := 53) rfl ?_); refine goesL_ (some 20) rfl rfl Try.func53 (by kernel_rfl) rfl #[.agg #[.int .i64 a0_0, .slice A0_1 l0_1.length c0_1]] rfl lmB ?_; (with_reducible refine (spec_CircuitValid.calls k a0_0 _ _ l0_1 false _ ?side1 ?side2 A8.out).mono ?_); (case side1 => exact kcR (Kd.C_below HR0_1.out HB.out)); (case side2 => exact HC0_1.out); rintro e w34 ⟨rfl, hb⟩; refine ⟨_, rfl, ?_⟩; have n0_ := Aside0.mk (blk_below (g := gb152) (o := .cells #[.int .i64 a0_0, .slice A0_1 l0_1.length c0_1] 28 (0, 0)) (bvK BK152.out) hb); have n1_ := Aside0.mk (blk_below (g := gb153) (o := .cells #[.int .i64 0, .slice none 0 0] 28 (0, 0)) (bvK BK153.out) hb); have n2_ := Aside0.mk (below_step hbC hb); clear BK152; clear BK153; clear HB; have BK152 := n0_; have BK153 := n1_; have HB := n2_; clear n0_ n1_ n2_; (try clear hb); (try clear hb2); (try clear hk); (try clear hi)))
   go_meet
   case rel => exact ⟨_, (true), rsd, H', ⟨by first | omega | exact Nat.le_refl _⟩, ⟨bvK BK152.out⟩, ⟨bvK BK153.out⟩, ⟨hbC⟩⟩
 case rest =>
  clear HC5
  try clear c1
  try clear c2
  try clear p2
  try clear c3
  try clear c5
  try clear p6
  try clear c9
  try clear c11
  try clear c13
  try clear c15
  try clear c21
  try clear c24
  try clear c27
  try clear c32
  try clear hcz16_0
  try clear hcz16_1
  try clear hcz18_0
  try clear hcz18_1
  try clear hcz20_0
  try clear hcz20_1
  try clear hcz22_0
  try clear hcz22_1
  try clear hcz24_0
  try clear hcz24_1
  try clear hcz26_0
  try clear hcz26_1
  try clear hcz28_0
  try clear hcz28_1
  try clear hcz30_0
  try clear hcz30_1
  try clear hcz33_0
  try clear hcz33_1
  try clear hfz16_0
  try clear hfz16_1
  try clear hfz18_0
  try clear hfz18_1
  try clear hfz20_0
  try clear hfz20_1
  try clear hfz22_0
  try clear hfz22_1
  try clear hfz24_0
  try clear hfz24_1
  try clear hfz26_0
  try clear hfz26_1
  try clear hfz28_0
  try clear hfz28_1
  try clear hfz30_0
  try clear hfz30_1
  try clear hfz33_0
  try clear hfz33_1
  obtain ⟨kq, x40_4, rfl, HA, HJ4, BK152, BK153, HB⟩ := hcut
  cases kq with
  | zero => exact absurd HA.out (by simp [spec_Fixed.j0])
  | succ kj4 =>
   have H := HA.out
   clear HA
   simp only [spec_Fixed.j0] at H
   by_cases c35 : x40_4 = true
   ·subst c35
    have H1 : (some (0, ([] : List (S92)), (-1))) = some (r1, r2, r3) := by rw [if_pos rfl] at H; exact H
    clear H
    have H := H1
    clear H1
    simp only [Option.some.injEq, Prod.mk.injEq] at H
    obtain ⟨rfl, rfl, rfl⟩ := H
    have hnb36 := NB153_152.out
    have hnc36 := NB152_153.out
    have hcz37_0 : wc.cell? ⟨gb153, 0, none⟩ = some (.int .i64 0) := (blk_cell BK153.out 0).trans rfl
    have hcz37_1 : wc.cell? ⟨gb153, 1, none⟩ = some (.slice none 0 0) := (blk_cell BK153.out 1).trans rfl
    have hfz37_0 := blk_frozen BK153.out 0
    have hfz37_1 := blk_frozen BK153.out 1
    go_wp2
    refine bodyPost_ret (results_ct rfl _ _ gb153 28 #[.int .i64 0, .slice none 0 0] (0, 0) _ rfl (by (with_reducible repeat (first | refine blk_drewN ?_ _ | refine blk_drew ?_ | refine blk_alloc ?_ _)); refine blk_put (cs := #[.int .i64 0, .slice none 0 0]) ?_ 1 _ rfl; (with_reducible repeat (first | refine blk_drewN ?_ _ | refine blk_drew ?_ | refine blk_alloc ?_ _)); refine blk_put (cs := #[.int .i64 0, .slice none 0 0]) ?_ 0 _ rfl; (with_reducible repeat (first | refine blk_drewN ?_ _ | refine blk_drew ?_ | refine blk_alloc ?_ _)); exact BK153.out) Try.underlying28 rfl (by kernel_rfl)) rfl ?_
    exact ⟨_, ers, by first | exact Kd.R_nil _ _ _ _ _ | exact Kd.N_nil _ _ _ _ _ | exact Kd.V_nil _ _ _ _ _ | exact Kd.Q_nil _ _ _ _ _ | exact Kd.S_nil _ _ _ _ _, hbC⟩
   ·replace c35 := Bool.eq_false_iff.mpr c35
    subst c35
    have H1 : (spec_Fixed.l0 kj4 a1 a2 a3 (([0] : List Int)) 0 a0_0 l0_1 a0_0) = some (r1, r2, r3) := by rw [if_neg (show ¬ (false = true) by decide)] at H; exact H
    clear H
    have H := H1
    clear H1
    obtain ⟨y159, hy159⟩ : ∃ y_ : List Int, y_ = (([0] : List Int)) := ⟨_, rfl⟩
    replace H : (spec_Fixed.l0 kj4 a1 a2 a3 y159 0 a0_0 l0_1 a0_0) = some (r1, r2, r3) := by first | (rw [hy159]; with_reducible exact H) | (have H2_ := (Option.bind_some _ _).symm.trans H; rw [hy159]; with_reducible exact H2_) | (have H2_ := (Option.bind_some _ _).symm.trans H; with_reducible exact H2_) | with_reducible exact H | (rw [hy159]; exact H) | exact H
    have Ny159 := Aside0.mk hy159
    clear hy159
    have H' := Aside0.mk H
    clear H
    have hnb38 := NB152_153.out
    have hnc38 := NB153_152.out
    have hcz39_0 : wc.cell? ⟨gb152, 0, none⟩ = some (.int .i64 a0_0) := (blk_cell BK152.out 0).trans rfl
    have hcz39_1 : wc.cell? ⟨gb152, 1, none⟩ = some (.slice A0_1 l0_1.length c0_1) := (blk_cell BK152.out 1).trans rfl
    have hfz39_0 := blk_frozen BK152.out 0
    have hfz39_1 := blk_frozen BK152.out 1
    go_wp2_with (first | ((with_reducible refine gate_dst (N := 10) rfl ?_); refine box_event ?hg (N := 10) ?hd (cs := #[.int .i64 0, .slice none 0 0]) (t := 28) ?hr ?_; (case hd => rfl); (case hg => rfl); (case hr => first | (go_simp; done) | (go_simp; rfl)); intro gb158 hg w40 hbox hb; have n0_ := Aside0.mk (blk_below (g := gb152) (o := .cells #[.int .i64 a0_0, .slice A0_1 l0_1.length c0_1] 28 (0, 0)) (bvK BK152.out) hb); have n1_ := Aside0.mk (blk_below (g := gb153) (o := .cells #[.int .i64 0, .slice none 0 0] 28 (0, 0)) (bvK BK153.out) hb); have n2_ := Aside0.mk (below_step hbC hb); have n3_ := Aside0.mk (hbox); have n4_ := Aside0.mk ((gwb hg (below_size hbC) : w.heap.size ≤ gb158)); have n5_ := n4_; have n6_ := Aside0.mk ((by rw [hg]; exact Nat.ne_of_lt (blk_lt (g := gb152) (o := .cells #[.int .i64 a0_0, .slice A0_1 l0_1.length c0_1] 28 (0, 0)) (bvK BK152.out)) : gb152 ≠ gb158)); have n7_ := Aside0.mk ((by rw [hg]; exact Nat.ne_of_gt (blk_lt (g := gb152) (o := .cells #[.int .i64 a0_0, .slice A0_1 l0_1.length c0_1] 28 (0, 0)) (bvK BK152.out)) : gb158 ≠ gb152)); have n8_ := Aside0.mk ((by rw [hg]; exact Nat.ne_of_lt (blk_lt (g := gb153) (o := .cells #[.int .i64 0, .slice none 0 0] 28 (0, 0)) (bvK BK153.out)) : gb153 ≠ gb158)); have n9_ := Aside0.mk ((by rw [hg]; exact Nat.ne_of_gt (blk_lt (g := gb153) (o := .cells #[.int .i64 0, .slice none 0 0] 28 (0, 0)) (bvK BK153.out)) : gb158 ≠ gb153)); clear BK152; clear BK153; clear HB; have BK152 := n0_; have BK153 := n1_; have HB := n2_; have BK158 := n3_; have GW158 := n4_; have GE158 := n5_; have NB152_158 := n6_; have NB158_152 := n7_; have NB153_158 := n8_; have NB158_153 := n9_; clear n0_ n1_ n2_ n3_ n4_ n5_ n6_ n7_ n8_ n9_; clear hb hbox hg; have hnb41 := NB158_152.out; have hnc41 := NB152_158.out; have hnb42 := NB158_153.out; have hnc42 := NB153_158.out; have hcz43_0 : w40.cell? ⟨gb158, 0, none⟩ = some (.int .i64 0) := (blk_cell BK158.out 0).trans rfl; have hcz43_1 : w40.cell? ⟨gb158, 1, none⟩ = some (.slice none 0 0) := (blk_cell BK158.out 1).trans rfl; have hfz43_0 := blk_frozen BK158.out 0; have hfz43_1 := blk_frozen BK158.out 1) | ((with_reducible refine gate_dst (N := 45) rfl ?_); refine Kd.R_lit (Kd.int .i64) _ 3 ?hg (N := 45) ?hd (xs := ([0] : List Int)) (inner := [.int .i64 0]) (ok := fun _ => True) (okp := fun _ => True) ?hr ?hp (fun _ hk => hk) trivial (Below.refl _ _) (Nat.le_refl _) (by simp) ?_; (case hd => rfl); (case hg => rfl); (case hr => first | (go_simp; done) | (go_simp; rfl)); (case hp => exact (Reps.one (show Kd.M (Kd.int .i64) _ _ _ 0 [.int .i64 0] from rfl) (Reps.none _ _))); intro v160 w44 ho45 hb hg_ hnew_; clear hg_ hnew_; (first | rw [← Ny159.out] at ho45 | (simp only [Int.reduceToNat] at ho45; rw [← Ny159.out] at ho45)); have n0_ := Aside0.mk (Kd.R_lower ho45 (below_size hbC)); have n1_ := Aside0.mk (blk_below (g := gb152) (o := .cells #[.int .i64 a0_0, .slice A0_1 l0_1.length c0_1] 28 (0, 0)) (by (with_reducible repeat (first | refine blk_drewN ?_ _ | refine blk_drew ?_ | refine blk_alloc ?_ _)); refine blk_far ?_ NB152_158.out _; (with_reducible repeat (first | refine blk_drewN ?_ _ | refine blk_drew ?_ | refine blk_alloc ?_ _)); refine blk_far ?_ NB152_158.out _; (with_reducible repeat (first | refine blk_drewN ?_ _ | refine blk_drew ?_ | refine blk_alloc ?_ _)); exact BK152.out) hb); have n2_ := Aside0.mk (blk_below (g := gb153) (o := .cells #[.int .i64 0, .slice none 0 0] 28 (0, 0)) (by (with_reducible repeat (first | refine blk_drewN ?_ _ | refine blk_drew ?_ | refine blk_alloc ?_ _)); refine blk_far ?_ NB153_158.out _; (with_reducible repeat (first | refine blk_drewN ?_ _ | refine blk_drew ?_ | refine blk_alloc ?_ _)); refine blk_far ?_ NB153_158.out _; (with_reducible repeat (first | refine blk_drewN ?_ _ | refine blk_drew ?_ | refine blk_alloc ?_ _)); exact BK153.out) hb); have n3_ := Aside0.mk (blk_below (g := gb158) (o := .cells #[.int .i64 a0_0, .slice none 0 0] 28 (0, 0)) (by (with_reducible repeat (first | refine blk_drewN ?_ _ | refine blk_drew ?_ | refine blk_alloc ?_ _)); refine blk_put (cs := #[.int .i64 a0_0, .slice none 0 0]) ?_ 1 _ rfl; (with_reducible repeat (first | refine blk_drewN ?_ _ | refine blk_drew ?_ | refine blk_alloc ?_ _)); refine blk_put (cs := #[.int .i64 0, .slice none 0 0]) ?_ 0 _ rfl; (with_reducible repeat (first | refine blk_drewN ?_ _ | refine blk_drew ?_ | refine blk_alloc ?_ _)); exact BK158.out) hb); have n4_ := Aside0.mk (below_step hbC hb); clear BK152; clear BK153; clear BK158; clear HB; have HO161 := n0_; have BK152 := n1_; have BK153 := n2_; have BK158 := n3_; have HB := n4_; clear n0_ n1_ n2_ n3_ n4_; clear hb ho45))
    go_loopg [11, 12] kj4 (fun kq v11 v12 w' => ∃ (x11_2 : List Int) (x12_2 : Int), v12 = .int .i64 x12_2 ∧ Aside0 (spec_Fixed.l0 kq a1 a2 a3 x11_2 x12_2 a0_0 l0_1 a0_0 = some (r1, r2, r3)) ∧ Aside0 (kq ≤ kj4) ∧ Aside0 (Kd.R (Kd.int .i64) 3 w' w.heap.size (fun _ => True) v11 x11_2) ∧ Aside0 (w'.heap[gb152]? = some (.cells #[.int .i64 a0_0, (.slice A0_1 l0_1.length c0_1)] 28 (0, 0))) ∧ Aside0 (w'.heap[gb153]? = some (.cells #[.int .i64 0, (.slice none 0 0)] 28 (0, 0))) ∧ Aside0 (w'.heap[gb158]? = some (.cells #[.int .i64 a0_0, (.slice none 0 0)] 28 (0, 0))) ∧ Aside0 (Below w.heap.size w w'))
    case atStart => exact ⟨(y159), (0), rsd, H', ⟨Nat.le_refl _⟩, ⟨rvR HO161.out⟩, ⟨bvK BK152.out⟩, ⟨bvK BK153.out⟩, ⟨bvK BK158.out⟩, ⟨hbC⟩⟩
    case round =>
     clear H'
     try clear c1
     try clear c2
     try clear p2
     try clear c3
     try clear c4
     try clear c5
     try clear p6
     try clear c9
     try clear c11
     try clear c13
     try clear c15
     try clear c21
     try clear c24
     try clear c27
     try clear c32
     try clear c35
     try clear c36
     try clear c38
     try clear c41
     try clear c42
     try clear hcz16_0
     try clear hcz16_1
     try clear hcz18_0
     try clear hcz18_1
     try clear hcz20_0
     try clear hcz20_1
     try clear hcz22_0
     try clear hcz22_1
     try clear hcz24_0
     try clear hcz24_1
     try clear hcz26_0
     try clear hcz26_1
     try clear hcz28_0
     try clear hcz28_1
     try clear hcz30_0
     try clear hcz30_1
     try clear hcz33_0
     try clear hcz33_1
     try clear hcz37_0
     try clear hcz37_1
     try clear hcz39_0
     try clear hcz39_1
     try clear hcz43_0
     try clear hcz43_1
     try clear hfz16_0
     try clear hfz16_1
     try clear hfz18_0
     try clear hfz18_1
     try clear hfz20_0
     try clear hfz20_1
     try clear hfz22_0
     try clear hfz22_1
     try clear hfz24_0
     try clear hfz24_1
     try clear hfz26_0
     try clear hfz26_1
     try clear hfz28_0
     try clear hfz28_1
     try clear hfz30_0
     try clear hfz30_1
     try clear hfz33_0
     try clear hfz33_1
     try clear hfz37_0
     try clear hfz37_1
     try clear hfz39_0
     try clear hfz39_1
     try clear hfz43_0
     try clear hfz43_1
     try clear p2
     try clear p6
     obtain ⟨x11_2, x12_2, rfl, HA, HK2, HO_11, BK152, BK153, BK158, HB⟩ := hrel
     cases gk with
     | zero => exact absurd HA.out (by simp [spec_Fixed.l0])
     | succ k2 =>
      have H := HA.out
      clear HA
      simp only [spec_Fixed.l0] at H
      by_cases c46 : x12_2 < a0_0
      ·rw [if_pos c46] at H
       have c46b0 : decide (x12_2 < a0_0) = true := decide_eq_true c46
       clear c46
       by_cases c47 : x12_2 = a2
       ·rw [if_pos c47] at H
        have c47b0 : (x12_2 == a2) = true := beq_iff_eq.mpr c47
        have c47b1 : (x12_2 != a2) = false := bne_eq_false_iff_eq.mpr c47
        clear c47
        by_cases c48 : x11_2.length < 17592186044416
        ·rw [if_pos c48] at H
         have LMc48 := Aside0.mk c48
         clear c48
         obtain ⟨y162, hy162⟩ : ∃ y_ : List Int, y_ = (x11_2 ++ [a3]) := ⟨_, rfl⟩
         replace H : (spec_Fixed.l0 k2 a1 a2 a3 y162 (wrap64 (x12_2 + 1)) a0_0 l0_1 a0_0) = some (r1, r2, r3) := by first | (rw [hy162]; with_reducible exact H) | (have H2_ := (Option.bind_some _ _).symm.trans H; rw [hy162]; with_reducible exact H2_) | (have H2_ := (Option.bind_some _ _).symm.trans H; with_reducible exact H2_) | with_reducible exact H | (rw [hy162]; exact H) | exact H
         have Ny162 := Aside0.mk hy162
         clear hy162
         have H' := Aside0.mk H
         clear H
         have hnb49 := NB152_153.out
         have hnc49 := NB153_152.out
         have hnb50 := NB152_158.out
         have hnc50 := NB158_152.out
         have hcz51_0 : wr.cell? ⟨gb152, 0, none⟩ = some (.int .i64 a0_0) := (blk_cell BK152.out 0).trans rfl
         have hcz51_1 : wr.cell? ⟨gb152, 1, none⟩ = some (.slice A0_1 l0_1.length c0_1) := (blk_cell BK152.out 1).trans rfl
         have hfz51_0 := blk_frozen BK152.out 0
         have hfz51_1 := blk_frozen BK152.out 1
         go_wp2_with (first | ((with_reducible refine gate_builtin (b := .append) (xs := #[.tmp 55, .tmp 57]) rfl ?_); at_builtin; refine Kd.R_append (Kd.int .i64) (w0 := w) w.heap.size rfl (.tmp 55) (.tmp 57) 38 3 (.int .i64 0) 8 rfl Try.underlying38 info3 rfl (by decide) (by omega) u11 x11_2 a3 [.int .i64 a3] (fun _ => True) (fun _ => False) rfl rfl ?aP (fun _ hk => hk.elim) ?aF ?aO ?aB ?aS ?aL ?_; (case aP => exact rfl); (case aB => exact hbC); (case aF => exact (fun _ _ => trivial)); (case aO => exact (rvR HO_11.out)); (case aS => exact (below_size hbC)); (case aL => have := LMc48.out; omega); intro v163 w52 ho hb hg hat; rw [← Ny162.out] at ho; have n0_ := Aside0.mk (blk_grown (g := gb152) (o := .cells #[.int .i64 a0_0, .slice A0_1 l0_1.length c0_1] 28 (0, 0)) (bvK BK152.out) hg (Kd.R_ne HO_11.out BK152.out (by decide))); have n1_ := Aside0.mk (blk_grown (g := gb153) (o := .cells #[.int .i64 0, .slice none 0 0] 28 (0, 0)) (bvK BK153.out) hg (Kd.R_ne HO_11.out BK153.out (by decide))); have n2_ := Aside0.mk (blk_grown (g := gb158) (o := .cells #[.int .i64 a0_0, .slice none 0 0] 28 (0, 0)) (bvK BK158.out) hg (Kd.R_ne HO_11.out BK158.out (by decide))); have n3_ := Aside0.mk (hb); have n4_ := Aside0.mk (ho); clear BK152; clear BK153; clear BK158; clear HB; clear HO_11; have BK152 := n0_; have BK153 := n1_; have BK158 := n2_; have HB := n3_; have HO164 := n4_; clear n0_ n1_ n2_ n3_ n4_; clear ho hb hg hat))
         go_roundg k2
         case measure => have := HJ4.out; have := HK2.out; omega
         case rel => exact ⟨(y162), (wrap64 (x12_2 + 1)), rsd, H', ⟨by have := HJ4.out; have := HK2.out; omega⟩, ⟨rvR HO164.out⟩, ⟨bvK BK152.out⟩, ⟨bvK BK153.out⟩, ⟨bvK BK158.out⟩, ⟨hbC⟩⟩
        ·rw [if_neg c48] at H
         exact absurd H (by simp)
       ·rw [if_neg c47] at H
        have c47b0 : (x12_2 == a2) = false := beq_eq_false_iff_ne.mpr c47
        have c47b1 : (x12_2 != a2) = true := bne_iff_ne.mpr c47
        by_cases c53 : x11_2.length < 17592186044416
        ·rw [if_pos c53] at H
         have LMc53 := Aside0.mk c53
         clear c53
         obtain ⟨y165, hy165⟩ : ∃ y_ : List Int, y_ = (x11_2 ++ [wrap64 (2 * (wrap64 (1 + x12_2)))]) := ⟨_, rfl⟩
         replace H : (spec_Fixed.l0 k2 a1 a2 a3 y165 (wrap64 (x12_2 + 1)) a0_0 l0_1 a0_0) = some (r1, r2, r3) := by first | (rw [hy165]; with_reducible exact H) | (have H2_ := (Option.bind_some _ _).symm.trans H; rw [hy165]; with_reducible exact H2_) | (have H2_ := (Option.bind_some _ _).symm.trans H; with_reducible exact H2_) | with_reducible exact H | (rw [hy165]; exact H) | exact H
         have Ny165 := Aside0.mk hy165
         clear hy165
         have H' := Aside0.mk H
         clear H
         have hnb54 := NB152_153.out
         have hnc54 := NB153_152.out
         have hnb55 := NB152_158.out
         have hnc55 := NB158_152.out
         have hcz56_0 : wr.cell? ⟨gb152, 0, none⟩ = some (.int .i64 a0_0) := (blk_cell BK152.out 0).trans rfl
         have hcz56_1 : wr.cell? ⟨gb152, 1, none⟩ = some (.slice A0_1 l0_1.length c0_1) := (blk_cell BK152.out 1).trans rfl
         have hfz56_0 := blk_frozen BK152.out 0
         have hfz56_1 := blk_frozen BK152.out 1
         go_wp2_with (first | ((with_reducible refine gate_builtin (b := .append) (xs := #[.tmp 59, .tmp 63]) rfl ?_); at_builtin; refine Kd.R_append (Kd.int .i64) (w0 := w) w.heap.size rfl (.tmp 59) (.tmp 63) 38 3 (.int .i64 0) 8 rfl Try.underlying38 info3 rfl (by decide) (by omega) u11 x11_2 (wrap64 (2 * (wrap64 (1 + x12_2)))) [.int .i64 (wrap64 (2 * (wrap64 (1 + x12_2))))] (fun _ => True) (fun _ => False) rfl rfl ?aP (fun _ hk => hk.elim) ?aF ?aO ?aB ?aS ?aL ?_; (case aP => exact rfl); (case aB => exact hbC); (case aF => exact (fun _ _ => trivial)); (case aO => exact (rvR HO_11.out)); (case aS => exact (below_size hbC)); (case aL => have := LMc53.out; omega); intro v166 w57 ho hb hg hat; rw [← Ny165.out] at ho; have n0_ := Aside0.mk (blk_grown (g := gb152) (o := .cells #[.int .i64 a0_0, .slice A0_1 l0_1.length c0_1] 28 (0, 0)) (bvK BK152.out) hg (Kd.R_ne HO_11.out BK152.out (by decide))); have n1_ := Aside0.mk (blk_grown (g := gb153) (o := .cells #[.int .i64 0, .slice none 0 0] 28 (0, 0)) (bvK BK153.out) hg (Kd.R_ne HO_11.out BK153.out (by decide))); have n2_ := Aside0.mk (blk_grown (g := gb158) (o := .cells #[.int .i64 a0_0, .slice none 0 0] 28 (0, 0)) (bvK BK158.out) hg (Kd.R_ne HO_11.out BK158.out (by decide))); have n3_ := Aside0.mk (hb); have n4_ := Aside0.mk (ho); clear BK152; clear BK153; clear BK158; clear HB; clear HO_11; have BK152 := n0_; have BK153 := n1_; have BK158 := n2_; have HB := n3_; have HO167 := n4_; clear n0_ n1_ n2_ n3_ n4_; clear ho hb hg hat))
         go_roundg k2
         case measure => have := HJ4.out; have := HK2.out; omega
         case rel => exact ⟨(y165), (wrap64 (x12_2 + 1)), rsd, H', ⟨by have := HJ4.out; have := HK2.out; omega⟩, ⟨rvR HO167.out⟩, ⟨bvK BK152.out⟩, ⟨bvK BK153.out⟩, ⟨bvK BK158.out⟩, ⟨hbC⟩⟩
        ·rw [if_neg c53] at H
         exact absurd H (by simp)
      ·rw [if_neg c46] at H
       have c46b0 : decide (x12_2 < a0_0) = false := decide_eq_false c46
       clear c46
       have H' := Aside0.mk H
       clear H
       have hnb58 := NB152_153.out
       have hnc58 := NB153_152.out
       have hnb59 := NB152_158.out
       have hnc59 := NB158_152.out
       have hcz60_0 : wr.cell? ⟨gb152, 0, none⟩ = some (.int .i64 a0_0) := (blk_cell BK152.out 0).trans rfl
       have hcz60_1 : wr.cell? ⟨gb152, 1, none⟩ = some (.slice A0_1 l0_1.length c0_1) := (blk_cell BK152.out 1).trans rfl
       have hfz60_0 := blk_frozen BK152.out 0
       have hfz60_1 := blk_frozen BK152.out 1
       go_wp2
       go_loopg [11, 13] k2 (fun kq v11 v13 w' => ∃ (x11_3 : List Int) (x13_3 : Int) (x159000_3 : Int) (x159001_3 : List (S92)) (u159001 : Value), v13 = .int .i64 x13_3 ∧ Aside0 (spec_Fixed.l1 kq a1 x11_3 x13_3 a0_0 l0_1 x159000_3 x159001_3 = some (r1, r2, r3)) ∧ Aside0 (kq ≤ k2) ∧ Aside0 (Kd.R (Kd.int .i64) 3 w' w.heap.size (fun _ => True) v11 x11_3) ∧ Aside0 (Kd.R k92 92 w' w.heap.size (fun _ => True) u159001 x159001_3) ∧ Aside0 (w'.heap[gb152]? = some (.cells #[.int .i64 a0_0, (.slice A0_1 l0_1.length c0_1)] 28 (0, 0))) ∧ Aside0 (w'.heap[gb153]? = some (.cells #[.int .i64 0, (.slice none 0 0)] 28 (0, 0))) ∧ Aside0 (w'.heap[gb158]? = some (.cells #[.int .i64 x159000_3, u159001] 28 (0, 0))) ∧ Aside0 (Below w.heap.size w w'))
       case atStart => exact ⟨(x11_2), (0), (a0_0), (([] : List (S92))), (.slice none 0 0), rsd, H', ⟨Nat.le_refl _⟩, ⟨rvR HO_11.out⟩, ⟨by first | exact Kd.R_nil _ _ _ _ _ | exact Kd.N_nil _ _ _ _ _ | exact Kd.V_nil _ _ _ _ _ | exact Kd.Q_nil _ _ _ _ _ | exact Kd.S_nil _ _ _ _ _⟩, ⟨bvK BK152.out⟩, ⟨bvK BK153.out⟩, ⟨bvK BK158.out⟩, ⟨hbC⟩⟩
       case round =>
        clear H'
        try clear c1
        try clear c2
        try clear p2
        try clear c3
        try clear c4
        try clear c5
        try clear p6
        try clear c9
        try clear c11
        try clear c13
        try clear c15
        try clear c21
        try clear c24
        try clear c27
        try clear c32
        try clear c35
        try clear c36
        try clear c38
        try clear c41
        try clear c42
        try clear c46
        try clear c46b0
        try clear c47
        try clear c47b0
        try clear c47b1
        try clear c48
        try clear c49
        try clear c50
        try clear c53
        try clear c54
        try clear c55
        try clear c58
        try clear c59
        try clear hcz16_0
        try clear hcz16_1
        try clear hcz18_0
        try clear hcz18_1
        try clear hcz20_0
        try clear hcz20_1
        try clear hcz22_0
        try clear hcz22_1
        try clear hcz24_0
        try clear hcz24_1
        try clear hcz26_0
        try clear hcz26_1
        try clear hcz28_0
        try clear hcz28_1
        try clear hcz30_0
        try clear hcz30_1
        try clear hcz33_0
        try clear hcz33_1
        try clear hcz37_0
        try clear hcz37_1
        try clear hcz39_0
        try clear hcz39_1
        try clear hcz43_0
        try clear hcz43_1
        try clear hcz51_0
        try clear hcz51_1
        try clear hcz56_0
        try clear hcz56_1
        try clear hcz60_0
        try clear hcz60_1
        try clear hfz16_0
        try clear hfz16_1
        try clear hfz18_0
        try clear hfz18_1
        try clear hfz20_0
        try clear hfz20_1
        try clear hfz22_0
        try clear hfz22_1
        try clear hfz24_0
        try clear hfz24_1
        try clear hfz26_0
        try clear hfz26_1
        try clear hfz28_0
        try clear hfz28_1
        try clear hfz30_0
        try clear hfz30_1
        try clear hfz33_0
        try clear hfz33_1
        try clear hfz37_0
        try clear hfz37_1
        try clear hfz39_0
        try clear hfz39_1
        try clear hfz43_0
        try clear hfz43_1
        try clear hfz51_0
        try clear hfz51_1
        try clear hfz56_0
        try clear hfz56_1
        try clear hfz60_0
        try clear hfz60_1
        try clear p2
        try clear p6
        obtain ⟨x11_3, x13_3, x159000_3, x159001_3, u159001, rfl, HA, HK3, HO_11, HO_159001, BK152, BK153, BK158, HB⟩ := hrel
        cases gk with
        | zero => exact absurd HA.out (by simp [spec_Fixed.l1])
        | succ k3 =>
         have H := HA.out
         clear HA
         simp only [spec_Fixed.l1] at H
         by_cases c61 : x13_3 < (l0_1.length : Int)
         ·rw [if_pos c61] at H
          have c61b0 : decide (x13_3 < (l0_1.length : Int)) = true := decide_eq_true c61
          clear c61
          by_cases c62 : 0 ≤ x13_3
          ·rw [if_pos c62] at H
           have c62b0 : decide (0 ≤ x13_3) = true := decide_eq_true c62
           clear c62
           obtain ⟨ji63, hji63⟩ : ∃ j_ : Int, (wrap64 (Int.tdiv ((rd_T92 l0_1 x13_3).f0) 2)) = j_ := ⟨_, rfl⟩
           replace H : (if 0 ≤ (ji63) then (if (ji63) < (x11_3.length : Int) then (if (Int.tmod ((rd_T92 l0_1 x13_3).f0) 2) = 1 then ((spec_l7Not.f (rd x11_3 (ji63))).bind fun t173 => (spec_Fixed.j3 k3 a1 x11_3 x13_3 t173 a0_0 l0_1 x159000_3 x159001_3)) else (spec_Fixed.j3 k3 a1 x11_3 x13_3 (rd x11_3 (ji63)) a0_0 l0_1 x159000_3 x159001_3)) else (none)) else (none)) = some (r1, r2, r3) := by first | (rw [hji63] at H; exact H) | (simp only [hji63] at H ⊢; exact H)
           have hji63w : (IntKind.i64.wrap (Int.tdiv ((rd_T92 l0_1 x13_3).f0) 2)) = ji63 := (i64_w _).trans hji63
           by_cases c64 : 0 ≤ (ji63)
           ·rw [if_pos c64] at H
            have c64b0 : decide (0 ≤ (ji63)) = true := decide_eq_true c64
            clear c64
            by_cases c65 : (ji63) < (x11_3.length : Int)
            ·rw [if_pos c65] at H
             have c65b0 : decide ((ji63) < (x11_3.length : Int)) = true := decide_eq_true c65
             clear c65
             have HC66 := Aside0.mk H
             clear H
             have hnb67 := NB152_153.out
             have hnc67 := NB153_152.out
             have hnb68 := NB152_158.out
             have hnc68 := NB158_152.out
             have hcz69_0 : wr.cell? ⟨gb152, 0, none⟩ = some (.int .i64 a0_0) := (blk_cell BK152.out 0).trans rfl
             have hcz69_1 : wr.cell? ⟨gb152, 1, none⟩ = some (.slice A0_1 l0_1.length c0_1) := (blk_cell BK152.out 1).trans rfl
             have hfz69_0 := blk_frozen BK152.out 0
             have hfz69_1 := blk_frozen BK152.out 1
             have p170 : 0 ≤ (x13_3 : Int) := oda
             have q170 : x13_3 < (l0_1.length : Int) := oda
             obtain ⟨ad170, e170, hx170_0, hx170_1⟩ := at_T92 HR0_1.out x13_3 p170 q170
             cases e170
             try replace hx170_0 := bct HB.out hx170_0
             try replace hx170_1 := bct HB.out hx170_1
             replace p170 := eq_true p170
             replace q170 := eq_true q170
             obtain ⟨Ao70, co70, eo70⟩ := Kd.R_slice HO_11.out
             subst eo70
             have p171 : 0 ≤ ((ji63) : Int) := oda
             have q171 : (ji63) < (x11_3.length : Int) := oda
             obtain ⟨ad171, e171, hx171_0⟩ := Kd.at_int (Kd.R_reads' HO_11.out).2.2 (ji63) p171 q171
             cases e171
             replace p171 := eq_true p171
             replace q171 := eq_true q171
             have p172 : 0 ≤ (x13_3 : Int) := oda
             have q172 : x13_3 < (l0_1.length : Int) := oda
             obtain ⟨ad172, e172, hx172_0, hx172_1⟩ := at_T92 HR0_1.out x13_3 p172 q172
             obtain rfl : ad170 = ad172 := (by injection e172)
             try replace hx172_0 := bct HB.out hx172_0
             try replace hx172_1 := bct HB.out hx172_1
             replace p172 := eq_true p172
             replace q172 := eq_true q172
             go_upto_if 89 with (fail)
             go_cut [14] (fun v14 wc => ∃ (kq : Nat) (x14_65 : Int), v14 = .int .i64 x14_65 ∧ Aside0 (spec_Fixed.j3 kq a1 x11_3 x13_3 x14_65 a0_0 l0_1 x159000_3 x159001_3 = some (r1, r2, r3)) ∧ Aside0 (kq ≤ k3) ∧ Aside0 (Kd.R (Kd.int .i64) 3 wc w.heap.size (fun _ => True) (.slice (some ad171) x11_3.length co70) x11_3) ∧ Aside0 (Kd.R k92 92 wc w.heap.size (fun _ => True) u159001 x159001_3) ∧ Aside0 (wc.heap[gb152]? = some (.cells #[.int .i64 a0_0, (.slice (some ad170) l0_1.length c0_1)] 28 (0, 0))) ∧ Aside0 (wc.heap[gb153]? = some (.cells #[.int .i64 0, (.slice none 0 0)] 28 (0, 0))) ∧ Aside0 (wc.heap[gb158]? = some (.cells #[.int .i64 x159000_3, u159001] 28 (0, 0))) ∧ Aside0 (Below w.heap.size w wc))
             case first =>
              have H := HC66.out
              clear HC66
              by_cases c71 : (Int.tmod ((rd_T92 l0_1 x13_3).f0) 2) = 1
              ·rw [if_pos c71] at H
               have c71b0 : ((Int.tmod ((rd_T92 l0_1 x13_3).f0) 2) == 1) = true := beq_iff_eq.mpr c71
               have c71b1 : ((Int.tmod ((rd_T92 l0_1 x13_3).f0) 2) != 1) = false := bne_eq_false_iff_eq.mpr c71
               clear c71
               (first | rw [c71b0] | (simp only [i64_w, i32_w]; rw [c71b0]) | skip)
               replace H := Option.bind_eq_some_iff.mp H
               obtain ⟨t173, A720, H⟩ := H
               replace H : (spec_Fixed.j3 k3 a1 x11_3 x13_3 t173 a0_0 l0_1 x159000_3 x159001_3) = some (r1, r2, r3) := H
               have A72 := Aside0.mk A720
               clear A720
               have H' := Aside0.mk H
               clear H
               go_wp2_with (first | ((with_reducible refine gate_callee (f := 75) rfl ?_); refine goesL_ (some 91) rfl rfl Try.func75 (by kernel_rfl) rfl #[.int .i64 (rd x11_3 (ji63))] rfl (by (try simp only [List.map_toArray, List.map_cons, List.map_nil]); first | done | (simp only [hji63]; rfl) | rfl | (simp only [List.length_drop, List.length_take]; rfl)) ?_; (with_reducible refine (spec_l7Not.calls (rd x11_3 (ji63)) t173 _ A72.out).mono ?_); rintro e w' ⟨rfl, ⟨nd, rfl⟩⟩; refine ⟨_, rfl, ?_⟩))
               go_meet
               case rel => exact ⟨_, (t173), rsd, H', ⟨by have := HJ4.out; have := HK2.out; have := HK3.out; first | omega | exact Nat.le_refl _⟩, ⟨rvR HO_11.out⟩, ⟨rvR HO_159001.out⟩, ⟨bvK BK152.out⟩, ⟨bvK BK153.out⟩, ⟨bvK BK158.out⟩, ⟨hbC⟩⟩
              ·rw [if_neg c71] at H
               have c71b0 : ((Int.tmod ((rd_T92 l0_1 x13_3).f0) 2) == 1) = false := beq_eq_false_iff_ne.mpr c71
               have c71b1 : ((Int.tmod ((rd_T92 l0_1 x13_3).f0) 2) != 1) = true := bne_iff_ne.mpr c71
               (first | rw [c71b0] | (simp only [i64_w, i32_w]; rw [c71b0]) | skip)
               have H' := Aside0.mk H
               clear H
               go_wp2
               go_meet
               case rel => exact ⟨_, (rd x11_3 (ji63)), (by first | rfl | (simp; done) | (simp only [← hji63] <;> (first | rfl | simp)) | (simp [*]; done)), H', ⟨by have := HJ4.out; have := HK2.out; have := HK3.out; first | omega | exact Nat.le_refl _⟩, ⟨rvR HO_11.out⟩, ⟨rvR HO_159001.out⟩, ⟨bvK BK152.out⟩, ⟨bvK BK153.out⟩, ⟨bvK BK158.out⟩, ⟨hbC⟩⟩
             case rest =>
              clear HC66
              try clear c1
              try clear p1
              try clear q1
              try clear hx1
              try clear c2
              try clear p2
              try clear c3
              try clear c4
              try clear c5
              try clear c6
              try clear p6
              try clear c7
              try clear c9
              try clear c11
              try clear c13
              try clear c15
              try clear p17
              try clear q17
              try clear hx17
              try clear c21
              try clear c24
              try clear c27
              try clear c32
              try clear c35
              try clear c36
              try clear c38
              try clear c41
              try clear c42
              try clear c46
              try clear c46b0
              try clear c47
              try clear c47b0
              try clear c47b1
              try clear c48
              try clear c49
              try clear c50
              try clear c53
              try clear c54
              try clear c55
              try clear c58
              try clear c59
              try clear c61
              try clear c61b0
              try clear c62
              try clear c62b0
              try clear c64
              try clear c64b0
              try clear p64
              try clear c65
              try clear c65b0
              try clear c67
              try clear c68
              try clear c71
              try clear c71b0
              try clear c71b1
              try clear hcz16_0
              try clear hcz16_1
              try clear hcz18_0
              try clear hcz18_1
              try clear hcz20_0
              try clear hcz20_1
              try clear hcz22_0
              try clear hcz22_1
              try clear hcz24_0
              try clear hcz24_1
              try clear hcz26_0
              try clear hcz26_1
              try clear hcz28_0
              try clear hcz28_1
              try clear hcz30_0
              try clear hcz30_1
              try clear hcz33_0
              try clear hcz33_1
              try clear hcz37_0
              try clear hcz37_1
              try clear hcz39_0
              try clear hcz39_1
              try clear hcz43_0
              try clear hcz43_1
              try clear hcz51_0
              try clear hcz51_1
              try clear hcz56_0
              try clear hcz56_1
              try clear hcz60_0
              try clear hcz60_1
              try clear hcz69_0
              try clear hcz69_1
              try clear hfz16_0
              try clear hfz16_1
              try clear hfz18_0
              try clear hfz18_1
              try clear hfz20_0
              try clear hfz20_1
              try clear hfz22_0
              try clear hfz22_1
              try clear hfz24_0
              try clear hfz24_1
              try clear hfz26_0
              try clear hfz26_1
              try clear hfz28_0
              try clear hfz28_1
              try clear hfz30_0
              try clear hfz30_1
              try clear hfz33_0
              try clear hfz33_1
              try clear hfz37_0
              try clear hfz37_1
              try clear hfz39_0
              try clear hfz39_1
              try clear hfz43_0
              try clear hfz43_1
              try clear hfz51_0
              try clear hfz51_1
              try clear hfz56_0
              try clear hfz56_1
              try clear hfz60_0
              try clear hfz60_1
              try clear hfz69_0
              try clear hfz69_1
              try clear hx170_0
              try clear hx170_1
              try clear hx171_0
              try clear hx172_0
              try clear hx172_1
              try clear p170
              try clear p171
              try clear p172
              try clear p2
              try clear p6
              try clear q170
              try clear q171
              try clear q172
              obtain ⟨kq, x14_65, rfl, HA, HJ65, HO_11, HO_159001, BK152, BK153, BK158, HB⟩ := hcut
              cases kq with
              | zero => exact absurd HA.out (by simp [spec_Fixed.j3])
              | succ kj65 =>
               have H := HA.out
               clear HA
               simp only [spec_Fixed.j3] at H
               by_cases c73 : 0 ≤ x13_3
               ·rw [if_pos c73] at H
                have c73b0 : decide (0 ≤ x13_3) = true := decide_eq_true c73
                clear c73
                by_cases c74 : x13_3 < (l0_1.length : Int)
                ·rw [if_pos c74] at H
                 have c74b0 : decide (x13_3 < (l0_1.length : Int)) = true := decide_eq_true c74
                 clear c74
                 obtain ⟨ji75, hji75⟩ : ∃ j_ : Int, (wrap64 (Int.tdiv ((rd_T92 l0_1 x13_3).f1) 2)) = j_ := ⟨_, rfl⟩
                 replace H : (if 0 ≤ (ji75) then (if (ji75) < (x11_3.length : Int) then (if (Int.tmod ((rd_T92 l0_1 x13_3).f1) 2) = 1 then ((spec_l7Not.f (rd x11_3 (ji75))).bind fun t177 => ((spec_l7And.f kj65 x159000_3 x159001_3 x14_65 t177).bind fun bt178 => (if x11_3.length < 17592186044416 then (spec_Fixed.l1 kj65 a1 (x11_3 ++ [bt178.2.2]) (wrap64 (x13_3 + 1)) a0_0 l0_1 bt178.1 bt178.2.1) else (none)))) else ((spec_l7And.f kj65 x159000_3 x159001_3 x14_65 (rd x11_3 (ji75))).bind fun bt187 => (if x11_3.length < 17592186044416 then (spec_Fixed.l1 kj65 a1 (x11_3 ++ [bt187.2.2]) (wrap64 (x13_3 + 1)) a0_0 l0_1 bt187.1 bt187.2.1) else (none)))) else (none)) else (none)) = some (r1, r2, r3) := by first | (rw [hji75] at H; exact H) | (simp only [hji75] at H ⊢; exact H)
                 have hji75w : (IntKind.i64.wrap (Int.tdiv ((rd_T92 l0_1 x13_3).f1) 2)) = ji75 := (i64_w _).trans hji75
                 by_cases c76 : 0 ≤ (ji75)
                 ·rw [if_pos c76] at H
                  have c76b0 : decide (0 ≤ (ji75)) = true := decide_eq_true c76
                  clear c76
                  by_cases c77 : (ji75) < (x11_3.length : Int)
                  ·rw [if_pos c77] at H
                   have c77b0 : decide ((ji75) < (x11_3.length : Int)) = true := decide_eq_true c77
                   clear c77
                   by_cases c78 : (Int.tmod ((rd_T92 l0_1 x13_3).f1) 2) = 1
                   ·rw [if_pos c78] at H
                    have c78b0 : ((Int.tmod ((rd_T92 l0_1 x13_3).f1) 2) == 1) = true := beq_iff_eq.mpr c78
                    have c78b1 : ((Int.tmod ((rd_T92 l0_1 x13_3).f1) 2) != 1) = false := bne_eq_false_iff_eq.mpr c78
                    clear c78
                    replace H := Option.bind_eq_some_iff.mp H
                    obtain ⟨t177, A790, H⟩ := H
                    replace H : ((spec_l7And.f kj65 x159000_3 x159001_3 x14_65 t177).bind fun bt178 => (if x11_3.length < 17592186044416 then (spec_Fixed.l1 kj65 a1 (x11_3 ++ [bt178.2.2]) (wrap64 (x13_3 + 1)) a0_0 l0_1 bt178.1 bt178.2.1) else (none))) = some (r1, r2, r3) := H
                    have A79 := Aside0.mk A790
                    clear A790
                    replace H := Option.bind_eq_some_iff.mp H
                    obtain ⟨⟨t178, t179, t182⟩, A800, H⟩ := H
                    replace H : (if x11_3.length < 17592186044416 then (spec_Fixed.l1 kj65 a1 (x11_3 ++ [t182]) (wrap64 (x13_3 + 1)) a0_0 l0_1 t178 t179) else (none)) = some (r1, r2, r3) := H
                    have A80 := Aside0.mk A800
                    clear A800
                    by_cases c81 : x11_3.length < 17592186044416
                    ·rw [if_pos c81] at H
                     have LMc81 := Aside0.mk c81
                     clear c81
                     obtain ⟨y184, hy184⟩ : ∃ y_ : List Int, y_ = (x11_3 ++ [t182]) := ⟨_, rfl⟩
                     replace H : (spec_Fixed.l1 kj65 a1 y184 (wrap64 (x13_3 + 1)) a0_0 l0_1 t178 t179) = some (r1, r2, r3) := by first | (rw [hy184]; with_reducible exact H) | (have H2_ := (Option.bind_some _ _).symm.trans H; rw [hy184]; with_reducible exact H2_) | (have H2_ := (Option.bind_some _ _).symm.trans H; with_reducible exact H2_) | with_reducible exact H | (rw [hy184]; exact H) | exact H
                     have Ny184 := Aside0.mk hy184
                     clear hy184
                     have H' := Aside0.mk H
                     clear H
                     have hnb82 := NB152_153.out
                     have hnc82 := NB153_152.out
                     have hnb83 := NB152_158.out
                     have hnc83 := NB158_152.out
                     have hcz84_0 : wc.cell? ⟨gb152, 0, none⟩ = some (.int .i64 a0_0) := (blk_cell BK152.out 0).trans rfl
                     have hcz84_1 : wc.cell? ⟨gb152, 1, none⟩ = some (.slice (some ad170) l0_1.length c0_1) := (blk_cell BK152.out 1).trans rfl
                     have hfz84_0 := blk_frozen BK152.out 0
                     have hfz84_1 := blk_frozen BK152.out 1
                     have p174 : 0 ≤ (x13_3 : Int) := oda
                     have q174 : x13_3 < (l0_1.length : Int) := oda
                     obtain ⟨ad174, e174, hx174_0, hx174_1⟩ := at_T92 HR0_1.out x13_3 p174 q174
                     obtain rfl : ad170 = ad174 := (by injection e174)
                     try replace hx174_0 := bct HB.out hx174_0
                     try replace hx174_1 := bct HB.out hx174_1
                     replace p174 := eq_true p174
                     replace q174 := eq_true q174
                     have p175 : 0 ≤ ((ji75) : Int) := oda
                     have q175 : (ji75) < (x11_3.length : Int) := oda
                     obtain ⟨ad175, e175, hx175_0⟩ := Kd.at_int (Kd.R_reads' HO_11.out).2.2 (ji75) p175 q175
                     obtain rfl : ad171 = ad175 := (by injection e175)
                     replace p175 := eq_true p175
                     replace q175 := eq_true q175
                     have p176 : 0 ≤ (x13_3 : Int) := oda
                     have q176 : x13_3 < (l0_1.length : Int) := oda
                     obtain ⟨ad176, e176, hx176_0, hx176_1⟩ := at_T92 HR0_1.out x13_3 p176 q176
                     obtain rfl : ad170 = ad176 := (by injection e176)
                     try replace hx176_0 := bct HB.out hx176_0
                     try replace hx176_1 := bct HB.out hx176_1
                     replace p176 := eq_true p176
                     replace q176 := eq_true q176
                     go_wp2_with (first | ((with_reducible refine gate_callee (f := 75) rfl ?_); refine goesL_ (some 111) rfl rfl Try.func75 (by kernel_rfl) rfl #[.int .i64 (rd x11_3 (ji75))] rfl (by (try simp only [List.map_toArray, List.map_cons, List.map_nil]); first | done | (simp only [hji75]; rfl) | rfl | (simp only [List.length_drop, List.length_take]; rfl)) ?_; (with_reducible refine (spec_l7Not.calls (rd x11_3 (ji75)) t177 _ A79.out).mono ?_); rintro e w' ⟨rfl, ⟨nd, rfl⟩⟩; refine ⟨_, rfl, ?_⟩; (try (rw [drewN_self wc]; generalize hq_ : World.drewN wc _ = wc; have n0_ : Aside0 (Kd.R (Kd.int .i64) 3 wc w.heap.size (fun _ => True) (.slice (some ad171) x11_3.length co70) x11_3) := ⟨by rw [← hq_]; exact (rvR HO_11.out)⟩; have n1_ : Aside0 (Kd.R k92 92 wc w.heap.size (fun _ => True) u159001 x159001_3) := ⟨by rw [← hq_]; exact (rvR HO_159001.out)⟩; have n2_ : Aside0 (wc.heap[gb152]? = some (.cells #[.int .i64 a0_0, .slice (some ad170) l0_1.length c0_1] 28 (0, 0))) := ⟨by rw [← hq_]; exact (bvK BK152.out)⟩; have n3_ : Aside0 (wc.heap[gb153]? = some (.cells #[.int .i64 0, .slice none 0 0] 28 (0, 0))) := ⟨by rw [← hq_]; exact (bvK BK153.out)⟩; have n4_ : Aside0 (wc.heap[gb158]? = some (.cells #[.int .i64 x159000_3, u159001] 28 (0, 0))) := ⟨by rw [← hq_]; exact (bvK BK158.out)⟩; have n5_ : Aside0 (Below w.heap.size w wc) := ⟨by rw [← hq_]; exact hbC⟩; clear HO_11 HO_159001 BK152 BK153 BK158 HB hq_; have HO_11 := n0_; have HO_159001 := n1_; have BK152 := n2_; have BK153 := n3_; have BK158 := n4_; have HB := n5_; clear n0_ n1_ n2_ n3_ n4_ n5_)); have hnb85 := NB158_153.out; have hnc85 := NB153_158.out; have hcz86_0 : wc.cell? ⟨gb158, 0, none⟩ = some (.int .i64 x159000_3) := (blk_cell BK158.out 0).trans rfl; have hcz86_1 : wc.cell? ⟨gb158, 1, none⟩ = some (u159001) := (blk_cell BK158.out 1).trans rfl; have hfz86_0 := blk_frozen BK158.out 0; have hfz86_1 := blk_frozen BK158.out 1; obtain ⟨Ao87, co87, eo87⟩ := Kd.R_slice HO_159001.out; subst eo87) | ((with_reducible refine gate_callee (f := 76) rfl ?_); refine goesL_ (some 116) rfl rfl Try.func76 (by kernel_rfl) rfl #[.agg #[.int .i64 x159000_3, .slice Ao87 x159001_3.length co87], .int .i64 x14_65, .int .i64 t177] rfl lmB ?_; (with_reducible refine (spec_l7And.calls kj65 x159000_3 (fun k_ => some k_ = (.slice Ao87 x159001_3.length co87 : Value).ownBlock) (.slice Ao87 x159001_3.length co87) x159001_3 x14_65 t177 t178 t179 t182 w _ ?side1 ?side2 A80.out).mono ?_); (case side1 => repeat (first | (with_reducible first | exact HB.out | apply bwA | apply bwN | apply bwD | refine below_set ?_ GE152.out | refine below_set ?_ GE153.out | refine below_set ?_ GE158.out) | exact HB.out)); (case side2 => exact Kd.R_tight rfl HO_159001.out); rintro e w88 ⟨v180, rfl, ho0, hb, hkp⟩; refine ⟨_, rfl, ?_⟩; have n0_ := Aside0.mk (Kd.R_mono (ok' := fun k_ => True) (Kd.R_keptB ((Kd.R_apart' HO_11.out (Kd.R_typed HO_159001.out) (by decide))) hkp (fun k_ hk_ hs_ => (hk_.2) hs_)) (fun k_ hk_ => trivial)); have n1_ := Aside0.mk (blk_kept (bvK BK152.out) hkp (fun hs_ => (fun e_ => (Kd.R_ne HO_159001.out BK152.out (by decide)) e_) hs_)); have n2_ := Aside0.mk (blk_kept (bvK BK153.out) hkp (fun hs_ => (fun e_ => (Kd.R_ne HO_159001.out BK153.out (by decide)) e_) hs_)); have n3_ := Aside0.mk (blk_kept (bvK BK158.out) hkp (fun hs_ => (fun e_ => (Kd.R_ne HO_159001.out BK158.out (by decide)) e_) hs_)); have n4_ := Aside0.mk (Kd.R_mono (ok' := fun k_ => True) ho0 (fun k_ hk_ => trivial)); have n5_ := Aside0.mk (hb); clear HO_11; clear BK152; clear BK153; clear BK158; clear HB; clear HO_159001; have HO_11 := n0_; have BK152 := n1_; have BK153 := n2_; have BK158 := n3_; have HO181 := n4_; have HB := n5_; clear n0_ n1_ n2_ n3_ n4_ n5_; (try clear hb); (try clear hkp); (try clear ho0)) | ((with_reducible refine gate_dst (N := 16) rfl ?_); refine box_event ?hg (N := 16) ?hd (cs := #[.int .i64 0, .slice none 0 0]) (t := 28) ?hr ?_; (case hd => rfl); (case hg => rfl); (case hr => first | (go_simp; done) | (go_simp; rfl)); intro gb183 hg w89 hbox hb; have n0_ := Aside0.mk (Kd.R_below (rvR HO_11.out) hb); have n1_ := Aside0.mk (Kd.R_below (rvR HO181.out) hb); have n2_ := Aside0.mk (blk_below (g := gb152) (o := .cells #[.int .i64 a0_0, .slice (some ad170) l0_1.length c0_1] 28 (0, 0)) (bvK BK152.out) hb); have n3_ := Aside0.mk (blk_below (g := gb153) (o := .cells #[.int .i64 0, .slice none 0 0] 28 (0, 0)) (bvK BK153.out) hb); have n4_ := Aside0.mk (blk_below (g := gb158) (o := .cells #[.int .i64 x159000_3, .slice Ao87 x159001_3.length co87] 28 (0, 0)) (bvK BK158.out) hb); have n5_ := Aside0.mk (below_step hbC hb); have n6_ := Aside0.mk (hbox); have n7_ := Aside0.mk ((gwb hg (below_size hbC) : w.heap.size ≤ gb183)); have n8_ := n7_; have n9_ := Aside0.mk ((by rw [hg]; exact Nat.ne_of_lt (blk_lt (g := gb152) (o := .cells #[.int .i64 a0_0, .slice (some ad170) l0_1.length c0_1] 28 (0, 0)) (bvK BK152.out)) : gb152 ≠ gb183)); have n10_ := Aside0.mk ((by rw [hg]; exact Nat.ne_of_gt (blk_lt (g := gb152) (o := .cells #[.int .i64 a0_0, .slice (some ad170) l0_1.length c0_1] 28 (0, 0)) (bvK BK152.out)) : gb183 ≠ gb152)); have n11_ := Aside0.mk ((by rw [hg]; exact Nat.ne_of_lt (blk_lt (g := gb153) (o := .cells #[.int .i64 0, .slice none 0 0] 28 (0, 0)) (bvK BK153.out)) : gb153 ≠ gb183)); have n12_ := Aside0.mk ((by rw [hg]; exact Nat.ne_of_gt (blk_lt (g := gb153) (o := .cells #[.int .i64 0, .slice none 0 0] 28 (0, 0)) (bvK BK153.out)) : gb183 ≠ gb153)); have n13_ := Aside0.mk ((by rw [hg]; exact Nat.ne_of_lt (blk_lt (g := gb158) (o := .cells #[.int .i64 x159000_3, .slice Ao87 x159001_3.length co87] 28 (0, 0)) (bvK BK158.out)) : gb158 ≠ gb183)); have n14_ := Aside0.mk ((by rw [hg]; exact Nat.ne_of_gt (blk_lt (g := gb158) (o := .cells #[.int .i64 x159000_3, .slice Ao87 x159001_3.length co87] 28 (0, 0)) (bvK BK158.out)) : gb183 ≠ gb158)); clear HO_11; clear HO181; clear BK152; clear BK153; clear BK158; clear HB; have HO_11 := n0_; have HO181 := n1_; have BK152 := n2_; have BK153 := n3_; have BK158 := n4_; have HB := n5_; have BK183 := n6_; have GW183 := n7_; have GE183 := n8_; have NB152_183 := n9_; have NB183_152 := n10_; have NB153_183 := n11_; have NB183_153 := n12_; have NB158_183 := n13_; have NB183_158 := n14_; clear n0_ n1_ n2_ n3_ n4_ n5_ n6_ n7_ n8_ n9_ n10_ n11_ n12_ n13_ n14_; clear hb hbox hg; have hnb90 := NB183_152.out; have hnc90 := NB152_183.out; have hnb91 := NB183_153.out; have hnc91 := NB153_183.out; have hnb92 := NB183_158.out; have hnc92 := NB158_183.out; have hcz93_0 : w89.cell? ⟨gb183, 0, none⟩ = some (.int .i64 0) := (blk_cell BK183.out 0).trans rfl; have hcz93_1 : w89.cell? ⟨gb183, 1, none⟩ = some (.slice none 0 0) := (blk_cell BK183.out 1).trans rfl; have hfz93_0 := blk_frozen BK183.out 0; have hfz93_1 := blk_frozen BK183.out 1; obtain ⟨Ao94, co94, eo94⟩ := Kd.R_slice HO181.out; subst eo94; have hcz95_0 : w89.cell? ⟨gb158, 0, none⟩ = some (.int .i64 x159000_3) := (blk_cell BK158.out 0).trans rfl; have hcz95_1 : w89.cell? ⟨gb158, 1, none⟩ = some (.slice Ao87 x159001_3.length co87) := (blk_cell BK158.out 1).trans rfl; have hfz95_0 := blk_frozen BK158.out 0; have hfz95_1 := blk_frozen BK158.out 1) | ((with_reducible refine gate_builtin (b := .append) (xs := #[.tmp 120, .tmp 122]) rfl ?_); at_builtin; refine Kd.R_append (Kd.int .i64) (w0 := w) w.heap.size rfl (.tmp 120) (.tmp 122) 38 3 (.int .i64 0) 8 rfl Try.underlying38 info3 rfl (by decide) (by omega) (.slice (some ad171) x11_3.length co70) x11_3 t182 [.int .i64 t182] (fun _ => True) (fun _ => False) rfl (by first | (go_simp; done) | (go_simp; rfl)) ?aP (fun _ hk => hk.elim) ?aF ?aO ?aB ?aS ?aL ?_; (case aP => exact rfl); (case aB => exact hbC); (case aF => exact (fun _ _ => trivial)); (case aO => exact (by (with_reducible repeat (first | apply Kd.R_alloc | apply Kd.R_drewN | apply Kd.R_drew)); exact Kd.R_mono (Kd.R_far (p := ⟨gb158, 1, none⟩) (Kd.R_far (p := ⟨gb158, 0, none⟩) (Kd.R_far (p := ⟨gb183, 1, none⟩) (Kd.R_far (p := ⟨gb183, 0, none⟩) (Kd.R_types (Kd.R_types HO_11.out BK183.out (by decide)) BK158.out (by decide)) (fun _ hk => hk.1.2) (.int .i64 t178)) (fun _ hk => hk.1.2) (.slice Ao94 t179.length co94)) (fun _ hk => hk.2) (.int .i64 t178)) (fun _ hk => hk.2) (.slice Ao94 t179.length co94)) (fun _ hk => trivial))); (case aS => exact (below_size hbC)); (case aL => have := LMc81.out; omega); intro v185 w96 ho hb hg hat; rw [← Ny184.out] at ho; have n0_ := Aside0.mk (blk_grown (g := gb152) (o := .cells #[.int .i64 a0_0, .slice (some ad170) l0_1.length c0_1] 28 (0, 0)) (by (with_reducible repeat (first | refine blk_drewN ?_ _ | refine blk_drew ?_ | refine blk_alloc ?_ _)); refine blk_far ?_ NB152_158.out _; (with_reducible repeat (first | refine blk_drewN ?_ _ | refine blk_drew ?_ | refine blk_alloc ?_ _)); refine blk_far ?_ NB152_158.out _; (with_reducible repeat (first | refine blk_drewN ?_ _ | refine blk_drew ?_ | refine blk_alloc ?_ _)); refine blk_far ?_ NB152_183.out _; (with_reducible repeat (first | refine blk_drewN ?_ _ | refine blk_drew ?_ | refine blk_alloc ?_ _)); refine blk_far ?_ NB152_183.out _; (with_reducible repeat (first | refine blk_drewN ?_ _ | refine blk_drew ?_ | refine blk_alloc ?_ _)); exact BK152.out) hg (Kd.R_ne HO_11.out BK152.out (by decide))); have n1_ := Aside0.mk (blk_grown (g := gb153) (o := .cells #[.int .i64 0, .slice none 0 0] 28 (0, 0)) (by (with_reducible repeat (first | refine blk_drewN ?_ _ | refine blk_drew ?_ | refine blk_alloc ?_ _)); refine blk_far ?_ NB153_158.out _; (with_reducible repeat (first | refine blk_drewN ?_ _ | refine blk_drew ?_ | refine blk_alloc ?_ _)); refine blk_far ?_ NB153_158.out _; (with_reducible repeat (first | refine blk_drewN ?_ _ | refine blk_drew ?_ | refine blk_alloc ?_ _)); refine blk_far ?_ NB153_183.out _; (with_reducible repeat (first | refine blk_drewN ?_ _ | refine blk_drew ?_ | refine blk_alloc ?_ _)); refine blk_far ?_ NB153_183.out _; (with_reducible repeat (first | refine blk_drewN ?_ _ | refine blk_drew ?_ | refine blk_alloc ?_ _)); exact BK153.out) hg (Kd.R_ne HO_11.out BK153.out (by decide))); have n2_ := Aside0.mk (blk_grown (g := gb158) (o := .cells #[.int .i64 t178, .slice Ao94 t179.length co94] 28 (0, 0)) (by (with_reducible repeat (first | refine blk_drewN ?_ _ | refine blk_drew ?_ | refine blk_alloc ?_ _)); refine blk_put (cs := #[.int .i64 t178, .slice Ao87 x159001_3.length co87]) ?_ 1 _ rfl; (with_reducible repeat (first | refine blk_drewN ?_ _ | refine blk_drew ?_ | refine blk_alloc ?_ _)); refine blk_put (cs := #[.int .i64 x159000_3, .slice Ao87 x159001_3.length co87]) ?_ 0 _ rfl; (with_reducible repeat (first | refine blk_drewN ?_ _ | refine blk_drew ?_ | refine blk_alloc ?_ _)); refine blk_far ?_ NB158_183.out _; (with_reducible repeat (first | refine blk_drewN ?_ _ | refine blk_drew ?_ | refine blk_alloc ?_ _)); refine blk_far ?_ NB158_183.out _; (with_reducible repeat (first | refine blk_drewN ?_ _ | refine blk_drew ?_ | refine blk_alloc ?_ _)); exact BK158.out) hg (Kd.R_ne HO_11.out BK158.out (by decide))); have n3_ := Aside0.mk (Kd.R_over' (by (with_reducible repeat (first | apply Kd.R_alloc | apply Kd.R_drewN | apply Kd.R_drew)); exact (Kd.R_mono (Kd.R_mono (Kd.R_far (p := ⟨gb158, 1, none⟩) (Kd.R_far (p := ⟨gb158, 0, none⟩) (Kd.R_far (p := ⟨gb183, 1, none⟩) (Kd.R_far (p := ⟨gb183, 0, none⟩) (Kd.R_types (Kd.R_types HO181.out BK183.out (by decide)) BK158.out (by decide)) (fun _ hk => hk.1.2) (.int .i64 t178)) (fun _ hk => hk.1.2) (.slice Ao94 t179.length co94)) (fun _ hk => hk.2) (.int .i64 t178)) (fun _ hk => hk.2) (.slice Ao94 t179.length co94)) (fun _ h_ => h_.1)) (fun _ h_ => h_.1))) (Kd.R_typed (by (with_reducible repeat (first | apply Kd.R_alloc | apply Kd.R_drewN | apply Kd.R_drew)); exact (Kd.R_mono (Kd.R_mono (Kd.R_far (p := ⟨gb158, 1, none⟩) (Kd.R_far (p := ⟨gb158, 0, none⟩) (Kd.R_far (p := ⟨gb183, 1, none⟩) (Kd.R_far (p := ⟨gb183, 0, none⟩) (Kd.R_types (Kd.R_types HO_11.out BK183.out (by decide)) BK158.out (by decide)) (fun _ hk => hk.1.2) (.int .i64 t178)) (fun _ hk => hk.1.2) (.slice Ao94 t179.length co94)) (fun _ hk => hk.2) (.int .i64 t178)) (fun _ hk => hk.2) (.slice Ao94 t179.length co94)) (fun _ h_ => h_.1)) (fun _ h_ => h_.1)))) (by decide) hg); have n4_ := Aside0.mk (blk_grown (g := gb183) (o := .cells #[.int .i64 t178, .slice Ao94 t179.length co94] 28 (0, 0)) (by (with_reducible repeat (first | refine blk_drewN ?_ _ | refine blk_drew ?_ | refine blk_alloc ?_ _)); refine blk_far ?_ NB183_158.out _; (with_reducible repeat (first | refine blk_drewN ?_ _ | refine blk_drew ?_ | refine blk_alloc ?_ _)); refine blk_far ?_ NB183_158.out _; (with_reducible repeat (first | refine blk_drewN ?_ _ | refine blk_drew ?_ | refine blk_alloc ?_ _)); refine blk_put (cs := #[.int .i64 t178, .slice none 0 0]) ?_ 1 _ rfl; (with_reducible repeat (first | refine blk_drewN ?_ _ | refine blk_drew ?_ | refine blk_alloc ?_ _)); refine blk_put (cs := #[.int .i64 0, .slice none 0 0]) ?_ 0 _ rfl; (with_reducible repeat (first | refine blk_drewN ?_ _ | refine blk_drew ?_ | refine blk_alloc ?_ _)); exact BK183.out) hg (Kd.R_ne HO_11.out BK183.out (by decide))); have n5_ := Aside0.mk (hb); have n6_ := Aside0.mk (ho); clear BK152; clear BK153; clear BK158; clear HO181; clear BK183; clear HB; clear HO_11; have BK152 := n0_; have BK153 := n1_; have BK158 := n2_; have HO181 := n3_; have BK183 := n4_; have HB := n5_; have HO186 := n6_; clear n0_ n1_ n2_ n3_ n4_ n5_ n6_; clear ho hb hg hat))
                     go_roundg kj65
                     case measure => have := HJ4.out; have := HK2.out; have := HK3.out; have := HJ65.out; omega
                     case rel => exact ⟨(y184), (wrap64 (x13_3 + 1)), (t178), (t179), (.slice Ao94 t179.length co94), rsd, H', ⟨by have := HJ4.out; have := HK2.out; have := HK3.out; have := HJ65.out; omega⟩, ⟨rvR HO186.out⟩, ⟨rvR HO181.out⟩, ⟨bvK BK152.out⟩, ⟨bvK BK153.out⟩, ⟨bvK BK158.out⟩, ⟨hbC⟩⟩
                    ·rw [if_neg c81] at H
                     exact absurd H (by simp)
                   ·rw [if_neg c78] at H
                    have c78b0 : ((Int.tmod ((rd_T92 l0_1 x13_3).f1) 2) == 1) = false := beq_eq_false_iff_ne.mpr c78
                    have c78b1 : ((Int.tmod ((rd_T92 l0_1 x13_3).f1) 2) != 1) = true := bne_iff_ne.mpr c78
                    replace H := Option.bind_eq_some_iff.mp H
                    obtain ⟨⟨t187, t188, t191⟩, A970, H⟩ := H
                    replace H : (if x11_3.length < 17592186044416 then (spec_Fixed.l1 kj65 a1 (x11_3 ++ [t191]) (wrap64 (x13_3 + 1)) a0_0 l0_1 t187 t188) else (none)) = some (r1, r2, r3) := H
                    have A97 := Aside0.mk A970
                    clear A970
                    by_cases c98 : x11_3.length < 17592186044416
                    ·rw [if_pos c98] at H
                     have LMc98 := Aside0.mk c98
                     clear c98
                     obtain ⟨y193, hy193⟩ : ∃ y_ : List Int, y_ = (x11_3 ++ [t191]) := ⟨_, rfl⟩
                     replace H : (spec_Fixed.l1 kj65 a1 y193 (wrap64 (x13_3 + 1)) a0_0 l0_1 t187 t188) = some (r1, r2, r3) := by first | (rw [hy193]; with_reducible exact H) | (have H2_ := (Option.bind_some _ _).symm.trans H; rw [hy193]; with_reducible exact H2_) | (have H2_ := (Option.bind_some _ _).symm.trans H; with_reducible exact H2_) | with_reducible exact H | (rw [hy193]; exact H) | exact H
                     have Ny193 := Aside0.mk hy193
                     clear hy193
                     have H' := Aside0.mk H
                     clear H
                     have hnb99 := NB152_153.out
                     have hnc99 := NB153_152.out
                     have hnb100 := NB152_158.out
                     have hnc100 := NB158_152.out
                     have hcz101_0 : wc.cell? ⟨gb152, 0, none⟩ = some (.int .i64 a0_0) := (blk_cell BK152.out 0).trans rfl
                     have hcz101_1 : wc.cell? ⟨gb152, 1, none⟩ = some (.slice (some ad170) l0_1.length c0_1) := (blk_cell BK152.out 1).trans rfl
                     have hfz101_0 := blk_frozen BK152.out 0
                     have hfz101_1 := blk_frozen BK152.out 1
                     have p174 : 0 ≤ (x13_3 : Int) := oda
                     have q174 : x13_3 < (l0_1.length : Int) := oda
                     obtain ⟨ad174, e174, hx174_0, hx174_1⟩ := at_T92 HR0_1.out x13_3 p174 q174
                     obtain rfl : ad170 = ad174 := (by injection e174)
                     try replace hx174_0 := bct HB.out hx174_0
                     try replace hx174_1 := bct HB.out hx174_1
                     replace p174 := eq_true p174
                     replace q174 := eq_true q174
                     have p175 : 0 ≤ ((ji75) : Int) := oda
                     have q175 : (ji75) < (x11_3.length : Int) := oda
                     obtain ⟨ad175, e175, hx175_0⟩ := Kd.at_int (Kd.R_reads' HO_11.out).2.2 (ji75) p175 q175
                     obtain rfl : ad171 = ad175 := (by injection e175)
                     replace p175 := eq_true p175
                     replace q175 := eq_true q175
                     have p176 : 0 ≤ (x13_3 : Int) := oda
                     have q176 : x13_3 < (l0_1.length : Int) := oda
                     obtain ⟨ad176, e176, hx176_0, hx176_1⟩ := at_T92 HR0_1.out x13_3 p176 q176
                     obtain rfl : ad170 = ad176 := (by injection e176)
                     try replace hx176_0 := bct HB.out hx176_0
                     try replace hx176_1 := bct HB.out hx176_1
                     replace p176 := eq_true p176
                     replace q176 := eq_true q176
                     have hnb102 := NB158_153.out
                     have hnc102 := NB153_158.out
                     have hcz103_0 : wc.cell? ⟨gb158, 0, none⟩ = some (.int .i64 x159000_3) := (blk_cell BK158.out 0).trans rfl
                     have hcz103_1 : wc.cell? ⟨gb158, 1, none⟩ = some (u159001) := (blk_cell BK158.out 1).trans rfl
                     have hfz103_0 := blk_frozen BK158.out 0
                     have hfz103_1 := blk_frozen BK158.out 1
                     obtain ⟨Ao104, co104, eo104⟩ := Kd.R_slice HO_159001.out
                     subst eo104
                     go_wp2_with (first | ((with_reducible refine gate_callee (f := 76) rfl ?_); refine goesL_ (some 116) rfl rfl Try.func76 (by kernel_rfl) rfl #[.agg #[.int .i64 x159000_3, .slice Ao104 x159001_3.length co104], .int .i64 x14_65, .int .i64 (rd x11_3 (ji75))] rfl (by (try simp only [List.map_toArray, List.map_cons, List.map_nil]); first | done | (simp only [hji75]; rfl) | rfl | (simp only [List.length_drop, List.length_take]; rfl)) ?_; (with_reducible refine (spec_l7And.calls kj65 x159000_3 (fun k_ => some k_ = (.slice Ao104 x159001_3.length co104 : Value).ownBlock) (.slice Ao104 x159001_3.length co104) x159001_3 x14_65 (rd x11_3 (ji75)) t187 t188 t191 w _ ?side1 ?side2 A97.out).mono ?_); (case side1 => repeat (first | (with_reducible first | exact HB.out | apply bwA | apply bwN | apply bwD | refine below_set ?_ GE152.out | refine below_set ?_ GE153.out | refine below_set ?_ GE158.out) | exact HB.out)); (case side2 => exact Kd.R_tight rfl HO_159001.out); rintro e w105 ⟨v189, rfl, ho0, hb, hkp⟩; refine ⟨_, rfl, ?_⟩; have n0_ := Aside0.mk (Kd.R_mono (ok' := fun k_ => True) (Kd.R_keptB ((Kd.R_apart' HO_11.out (Kd.R_typed HO_159001.out) (by decide))) hkp (fun k_ hk_ hs_ => (hk_.2) hs_)) (fun k_ hk_ => trivial)); have n1_ := Aside0.mk (blk_kept (bvK BK152.out) hkp (fun hs_ => (fun e_ => (Kd.R_ne HO_159001.out BK152.out (by decide)) e_) hs_)); have n2_ := Aside0.mk (blk_kept (bvK BK153.out) hkp (fun hs_ => (fun e_ => (Kd.R_ne HO_159001.out BK153.out (by decide)) e_) hs_)); have n3_ := Aside0.mk (blk_kept (bvK BK158.out) hkp (fun hs_ => (fun e_ => (Kd.R_ne HO_159001.out BK158.out (by decide)) e_) hs_)); have n4_ := Aside0.mk (Kd.R_mono (ok' := fun k_ => True) ho0 (fun k_ hk_ => trivial)); have n5_ := Aside0.mk (hb); clear HO_11; clear BK152; clear BK153; clear BK158; clear HB; clear HO_159001; have HO_11 := n0_; have BK152 := n1_; have BK153 := n2_; have BK158 := n3_; have HO190 := n4_; have HB := n5_; clear n0_ n1_ n2_ n3_ n4_ n5_; (try clear hb); (try clear hkp); (try clear ho0)) | ((with_reducible refine gate_dst (N := 16) rfl ?_); refine box_event ?hg (N := 16) ?hd (cs := #[.int .i64 0, .slice none 0 0]) (t := 28) ?hr ?_; (case hd => rfl); (case hg => rfl); (case hr => first | (go_simp; done) | (go_simp; rfl)); intro gb192 hg w106 hbox hb; have n0_ := Aside0.mk (Kd.R_below (rvR HO_11.out) hb); have n1_ := Aside0.mk (Kd.R_below (rvR HO190.out) hb); have n2_ := Aside0.mk (blk_below (g := gb152) (o := .cells #[.int .i64 a0_0, .slice (some ad170) l0_1.length c0_1] 28 (0, 0)) (bvK BK152.out) hb); have n3_ := Aside0.mk (blk_below (g := gb153) (o := .cells #[.int .i64 0, .slice none 0 0] 28 (0, 0)) (bvK BK153.out) hb); have n4_ := Aside0.mk (blk_below (g := gb158) (o := .cells #[.int .i64 x159000_3, .slice Ao104 x159001_3.length co104] 28 (0, 0)) (bvK BK158.out) hb); have n5_ := Aside0.mk (below_step hbC hb); have n6_ := Aside0.mk (hbox); have n7_ := Aside0.mk ((gwb hg (below_size hbC) : w.heap.size ≤ gb192)); have n8_ := n7_; have n9_ := Aside0.mk ((by rw [hg]; exact Nat.ne_of_lt (blk_lt (g := gb152) (o := .cells #[.int .i64 a0_0, .slice (some ad170) l0_1.length c0_1] 28 (0, 0)) (bvK BK152.out)) : gb152 ≠ gb192)); have n10_ := Aside0.mk ((by rw [hg]; exact Nat.ne_of_gt (blk_lt (g := gb152) (o := .cells #[.int .i64 a0_0, .slice (some ad170) l0_1.length c0_1] 28 (0, 0)) (bvK BK152.out)) : gb192 ≠ gb152)); have n11_ := Aside0.mk ((by rw [hg]; exact Nat.ne_of_lt (blk_lt (g := gb153) (o := .cells #[.int .i64 0, .slice none 0 0] 28 (0, 0)) (bvK BK153.out)) : gb153 ≠ gb192)); have n12_ := Aside0.mk ((by rw [hg]; exact Nat.ne_of_gt (blk_lt (g := gb153) (o := .cells #[.int .i64 0, .slice none 0 0] 28 (0, 0)) (bvK BK153.out)) : gb192 ≠ gb153)); have n13_ := Aside0.mk ((by rw [hg]; exact Nat.ne_of_lt (blk_lt (g := gb158) (o := .cells #[.int .i64 x159000_3, .slice Ao104 x159001_3.length co104] 28 (0, 0)) (bvK BK158.out)) : gb158 ≠ gb192)); have n14_ := Aside0.mk ((by rw [hg]; exact Nat.ne_of_gt (blk_lt (g := gb158) (o := .cells #[.int .i64 x159000_3, .slice Ao104 x159001_3.length co104] 28 (0, 0)) (bvK BK158.out)) : gb192 ≠ gb158)); clear HO_11; clear HO190; clear BK152; clear BK153; clear BK158; clear HB; have HO_11 := n0_; have HO190 := n1_; have BK152 := n2_; have BK153 := n3_; have BK158 := n4_; have HB := n5_; have BK192 := n6_; have GW192 := n7_; have GE192 := n8_; have NB152_192 := n9_; have NB192_152 := n10_; have NB153_192 := n11_; have NB192_153 := n12_; have NB158_192 := n13_; have NB192_158 := n14_; clear n0_ n1_ n2_ n3_ n4_ n5_ n6_ n7_ n8_ n9_ n10_ n11_ n12_ n13_ n14_; clear hb hbox hg; have hnb107 := NB192_152.out; have hnc107 := NB152_192.out; have hnb108 := NB192_153.out; have hnc108 := NB153_192.out; have hnb109 := NB192_158.out; have hnc109 := NB158_192.out; have hcz110_0 : w106.cell? ⟨gb192, 0, none⟩ = some (.int .i64 0) := (blk_cell BK192.out 0).trans rfl; have hcz110_1 : w106.cell? ⟨gb192, 1, none⟩ = some (.slice none 0 0) := (blk_cell BK192.out 1).trans rfl; have hfz110_0 := blk_frozen BK192.out 0; have hfz110_1 := blk_frozen BK192.out 1; obtain ⟨Ao111, co111, eo111⟩ := Kd.R_slice HO190.out; subst eo111; have hcz112_0 : w106.cell? ⟨gb158, 0, none⟩ = some (.int .i64 x159000_3) := (blk_cell BK158.out 0).trans rfl; have hcz112_1 : w106.cell? ⟨gb158, 1, none⟩ = some (.slice Ao104 x159001_3.length co104) := (blk_cell BK158.out 1).trans rfl; have hfz112_0 := blk_frozen BK158.out 0; have hfz112_1 := blk_frozen BK158.out 1) | ((with_reducible refine gate_builtin (b := .append) (xs := #[.tmp 120, .tmp 122]) rfl ?_); at_builtin; refine Kd.R_append (Kd.int .i64) (w0 := w) w.heap.size rfl (.tmp 120) (.tmp 122) 38 3 (.int .i64 0) 8 rfl Try.underlying38 info3 rfl (by decide) (by omega) (.slice (some ad171) x11_3.length co70) x11_3 t191 [.int .i64 t191] (fun _ => True) (fun _ => False) rfl (by first | (go_simp; done) | (go_simp; rfl)) ?aP (fun _ hk => hk.elim) ?aF ?aO ?aB ?aS ?aL ?_; (case aP => exact rfl); (case aB => exact hbC); (case aF => exact (fun _ _ => trivial)); (case aO => exact (by (with_reducible repeat (first | apply Kd.R_alloc | apply Kd.R_drewN | apply Kd.R_drew)); exact Kd.R_mono (Kd.R_far (p := ⟨gb158, 1, none⟩) (Kd.R_far (p := ⟨gb158, 0, none⟩) (Kd.R_far (p := ⟨gb192, 1, none⟩) (Kd.R_far (p := ⟨gb192, 0, none⟩) (Kd.R_types (Kd.R_types HO_11.out BK192.out (by decide)) BK158.out (by decide)) (fun _ hk => hk.1.2) (.int .i64 t187)) (fun _ hk => hk.1.2) (.slice Ao111 t188.length co111)) (fun _ hk => hk.2) (.int .i64 t187)) (fun _ hk => hk.2) (.slice Ao111 t188.length co111)) (fun _ hk => trivial))); (case aS => exact (below_size hbC)); (case aL => have := LMc98.out; omega); intro v194 w113 ho hb hg hat; rw [← Ny193.out] at ho; have n0_ := Aside0.mk (blk_grown (g := gb152) (o := .cells #[.int .i64 a0_0, .slice (some ad170) l0_1.length c0_1] 28 (0, 0)) (by (with_reducible repeat (first | refine blk_drewN ?_ _ | refine blk_drew ?_ | refine blk_alloc ?_ _)); refine blk_far ?_ NB152_158.out _; (with_reducible repeat (first | refine blk_drewN ?_ _ | refine blk_drew ?_ | refine blk_alloc ?_ _)); refine blk_far ?_ NB152_158.out _; (with_reducible repeat (first | refine blk_drewN ?_ _ | refine blk_drew ?_ | refine blk_alloc ?_ _)); refine blk_far ?_ NB152_192.out _; (with_reducible repeat (first | refine blk_drewN ?_ _ | refine blk_drew ?_ | refine blk_alloc ?_ _)); refine blk_far ?_ NB152_192.out _; (with_reducible repeat (first | refine blk_drewN ?_ _ | refine blk_drew ?_ | refine blk_alloc ?_ _)); exact BK152.out) hg (Kd.R_ne HO_11.out BK152.out (by decide))); have n1_ := Aside0.mk (blk_grown (g := gb153) (o := .cells #[.int .i64 0, .slice none 0 0] 28 (0, 0)) (by (with_reducible repeat (first | refine blk_drewN ?_ _ | refine blk_drew ?_ | refine blk_alloc ?_ _)); refine blk_far ?_ NB153_158.out _; (with_reducible repeat (first | refine blk_drewN ?_ _ | refine blk_drew ?_ | refine blk_alloc ?_ _)); refine blk_far ?_ NB153_158.out _; (with_reducible repeat (first | refine blk_drewN ?_ _ | refine blk_drew ?_ | refine blk_alloc ?_ _)); refine blk_far ?_ NB153_192.out _; (with_reducible repeat (first | refine blk_drewN ?_ _ | refine blk_drew ?_ | refine blk_alloc ?_ _)); refine blk_far ?_ NB153_192.out _; (with_reducible repeat (first | refine blk_drewN ?_ _ | refine blk_drew ?_ | refine blk_alloc ?_ _)); exact BK153.out) hg (Kd.R_ne HO_11.out BK153.out (by decide))); have n2_ := Aside0.mk (blk_grown (g := gb158) (o := .cells #[.int .i64 t187, .slice Ao111 t188.length co111] 28 (0, 0)) (by (with_reducible repeat (first | refine blk_drewN ?_ _ | refine blk_drew ?_ | refine blk_alloc ?_ _)); refine blk_put (cs := #[.int .i64 t187, .slice Ao104 x159001_3.length co104]) ?_ 1 _ rfl; (with_reducible repeat (first | refine blk_drewN ?_ _ | refine blk_drew ?_ | refine blk_alloc ?_ _)); refine blk_put (cs := #[.int .i64 x159000_3, .slice Ao104 x159001_3.length co104]) ?_ 0 _ rfl; (with_reducible repeat (first | refine blk_drewN ?_ _ | refine blk_drew ?_ | refine blk_alloc ?_ _)); refine blk_far ?_ NB158_192.out _; (with_reducible repeat (first | refine blk_drewN ?_ _ | refine blk_drew ?_ | refine blk_alloc ?_ _)); refine blk_far ?_ NB158_192.out _; (with_reducible repeat (first | refine blk_drewN ?_ _ | refine blk_drew ?_ | refine blk_alloc ?_ _)); exact BK158.out) hg (Kd.R_ne HO_11.out BK158.out (by decide))); have n3_ := Aside0.mk (Kd.R_over' (by (with_reducible repeat (first | apply Kd.R_alloc | apply Kd.R_drewN | apply Kd.R_drew)); exact (Kd.R_mono (Kd.R_mono (Kd.R_far (p := ⟨gb158, 1, none⟩) (Kd.R_far (p := ⟨gb158, 0, none⟩) (Kd.R_far (p := ⟨gb192, 1, none⟩) (Kd.R_far (p := ⟨gb192, 0, none⟩) (Kd.R_types (Kd.R_types HO190.out BK192.out (by decide)) BK158.out (by decide)) (fun _ hk => hk.1.2) (.int .i64 t187)) (fun _ hk => hk.1.2) (.slice Ao111 t188.length co111)) (fun _ hk => hk.2) (.int .i64 t187)) (fun _ hk => hk.2) (.slice Ao111 t188.length co111)) (fun _ h_ => h_.1)) (fun _ h_ => h_.1))) (Kd.R_typed (by (with_reducible repeat (first | apply Kd.R_alloc | apply Kd.R_drewN | apply Kd.R_drew)); exact (Kd.R_mono (Kd.R_mono (Kd.R_far (p := ⟨gb158, 1, none⟩) (Kd.R_far (p := ⟨gb158, 0, none⟩) (Kd.R_far (p := ⟨gb192, 1, none⟩) (Kd.R_far (p := ⟨gb192, 0, none⟩) (Kd.R_types (Kd.R_types HO_11.out BK192.out (by decide)) BK158.out (by decide)) (fun _ hk => hk.1.2) (.int .i64 t187)) (fun _ hk => hk.1.2) (.slice Ao111 t188.length co111)) (fun _ hk => hk.2) (.int .i64 t187)) (fun _ hk => hk.2) (.slice Ao111 t188.length co111)) (fun _ h_ => h_.1)) (fun _ h_ => h_.1)))) (by decide) hg); have n4_ := Aside0.mk (blk_grown (g := gb192) (o := .cells #[.int .i64 t187, .slice Ao111 t188.length co111] 28 (0, 0)) (by (with_reducible repeat (first | refine blk_drewN ?_ _ | refine blk_drew ?_ | refine blk_alloc ?_ _)); refine blk_far ?_ NB192_158.out _; (with_reducible repeat (first | refine blk_drewN ?_ _ | refine blk_drew ?_ | refine blk_alloc ?_ _)); refine blk_far ?_ NB192_158.out _; (with_reducible repeat (first | refine blk_drewN ?_ _ | refine blk_drew ?_ | refine blk_alloc ?_ _)); refine blk_put (cs := #[.int .i64 t187, .slice none 0 0]) ?_ 1 _ rfl; (with_reducible repeat (first | refine blk_drewN ?_ _ | refine blk_drew ?_ | refine blk_alloc ?_ _)); refine blk_put (cs := #[.int .i64 0, .slice none 0 0]) ?_ 0 _ rfl; (with_reducible repeat (first | refine blk_drewN ?_ _ | refine blk_drew ?_ | refine blk_alloc ?_ _)); exact BK192.out) hg (Kd.R_ne HO_11.out BK192.out (by decide))); have n5_ := Aside0.mk (hb); have n6_ := Aside0.mk (ho); clear BK152; clear BK153; clear BK158; clear HO190; clear BK192; clear HB; clear HO_11; have BK152 := n0_; have BK153 := n1_; have BK158 := n2_; have HO190 := n3_; have BK192 := n4_; have HB := n5_; have HO195 := n6_; clear n0_ n1_ n2_ n3_ n4_ n5_ n6_; clear ho hb hg hat))
                     go_roundg kj65
                     case measure => have := HJ4.out; have := HK2.out; have := HK3.out; have := HJ65.out; omega
                     case rel => exact ⟨(y193), (wrap64 (x13_3 + 1)), (t187), (t188), (.slice Ao111 t188.length co111), rsd, H', ⟨by have := HJ4.out; have := HK2.out; have := HK3.out; have := HJ65.out; omega⟩, ⟨rvR HO195.out⟩, ⟨rvR HO190.out⟩, ⟨bvK BK152.out⟩, ⟨bvK BK153.out⟩, ⟨bvK BK158.out⟩, ⟨hbC⟩⟩
                    ·rw [if_neg c98] at H
                     exact absurd H (by simp)
                  ·rw [if_neg c77] at H
                   exact absurd H (by simp)
                 ·rw [if_neg c76] at H
                  exact absurd H (by simp)
                ·rw [if_neg c74] at H
                 exact absurd H (by simp)
               ·rw [if_neg c73] at H
                exact absurd H (by simp)
            ·rw [if_neg c65] at H
             exact absurd H (by simp)
           ·rw [if_neg c64] at H
            exact absurd H (by simp)
          ·rw [if_neg c62] at H
           exact absurd H (by simp)
         ·rw [if_neg c61] at H
          have c61b0 : decide (x13_3 < (l0_1.length : Int)) = false := decide_eq_false c61
          clear c61
          obtain ⟨ji114, hji114⟩ : ∃ j_ : Int, (wrap64 (Int.tdiv a1 2)) = j_ := ⟨_, rfl⟩
          replace H : (if 0 ≤ (ji114) then (if (ji114) < (x11_3.length : Int) then (if (Int.tmod a1 2) = 1 then ((spec_l7Not.f (rd x11_3 (ji114))).bind fun t169 => (some (x159000_3, x159001_3, t169))) else (some (x159000_3, x159001_3, rd x11_3 (ji114)))) else (none)) else (none)) = some (r1, r2, r3) := by first | (rw [hji114] at H; exact H) | (simp only [hji114] at H ⊢; exact H)
          have hji114w : (IntKind.i64.wrap (Int.tdiv a1 2)) = ji114 := (i64_w _).trans hji114
          by_cases c115 : 0 ≤ (ji114)
          ·rw [if_pos c115] at H
           have c115b0 : decide (0 ≤ (ji114)) = true := decide_eq_true c115
           clear c115
           by_cases c116 : (ji114) < (x11_3.length : Int)
           ·rw [if_pos c116] at H
            have c116b0 : decide ((ji114) < (x11_3.length : Int)) = true := decide_eq_true c116
            clear c116
            by_cases c117 : (Int.tmod a1 2) = 1
            ·rw [if_pos c117] at H
             have c117b0 : ((Int.tmod a1 2) == 1) = true := beq_iff_eq.mpr c117
             have c117b1 : ((Int.tmod a1 2) != 1) = false := bne_eq_false_iff_eq.mpr c117
             clear c117
             replace H := Option.bind_eq_some_iff.mp H
             obtain ⟨t169, A1180, H⟩ := H
             replace H : (some (x159000_3, x159001_3, t169)) = some (r1, r2, r3) := H
             have A118 := Aside0.mk A1180
             clear A1180
             simp only [Option.some.injEq, Prod.mk.injEq] at H
             obtain ⟨rfl, rfl, rfl⟩ := H
             have hnb119 := NB152_153.out
             have hnc119 := NB153_152.out
             have hnb120 := NB152_158.out
             have hnc120 := NB158_152.out
             have hcz121_0 : wr.cell? ⟨gb152, 0, none⟩ = some (.int .i64 a0_0) := (blk_cell BK152.out 0).trans rfl
             have hcz121_1 : wr.cell? ⟨gb152, 1, none⟩ = some (.slice A0_1 l0_1.length c0_1) := (blk_cell BK152.out 1).trans rfl
             have hfz121_0 := blk_frozen BK152.out 0
             have hfz121_1 := blk_frozen BK152.out 1
             obtain ⟨Ao122, co122, eo122⟩ := Kd.R_slice HO_11.out
             subst eo122
             have p168 : 0 ≤ ((ji114) : Int) := oda
             have q168 : (ji114) < (x11_3.length : Int) := oda
             obtain ⟨ad168, e168, hx168_0⟩ := Kd.at_int (Kd.R_reads' HO_11.out).2.2 (ji114) p168 q168
             cases e168
             replace p168 := eq_true p168
             replace q168 := eq_true q168
             go_wp2_with (first | ((with_reducible refine gate_callee (f := 75) rfl ?_); refine goesL_ (some 133) rfl rfl Try.func75 (by kernel_rfl) rfl #[.int .i64 (rd x11_3 (ji114))] rfl (by (try simp only [List.map_toArray, List.map_cons, List.map_nil]); first | done | (simp only [hji114]; rfl) | rfl | (simp only [List.length_drop, List.length_take]; rfl)) ?_; (with_reducible refine (spec_l7Not.calls (rd x11_3 (ji114)) t169 _ A118.out).mono ?_); rintro e w' ⟨rfl, ⟨nd, rfl⟩⟩; refine ⟨_, rfl, ?_⟩; (try (rw [drewN_self wr]; generalize hq_ : World.drewN wr _ = wr; have n0_ : Aside0 (Kd.R (Kd.int .i64) 3 wr w.heap.size (fun _ => True) (.slice (some ad168) x11_3.length co122) x11_3) := ⟨by rw [← hq_]; exact (rvR HO_11.out)⟩; have n1_ : Aside0 (Kd.R k92 92 wr w.heap.size (fun _ => True) u159001 x159001_3) := ⟨by rw [← hq_]; exact (rvR HO_159001.out)⟩; have n2_ : Aside0 (wr.heap[gb152]? = some (.cells #[.int .i64 a0_0, .slice A0_1 l0_1.length c0_1] 28 (0, 0))) := ⟨by rw [← hq_]; exact (bvK BK152.out)⟩; have n3_ : Aside0 (wr.heap[gb153]? = some (.cells #[.int .i64 0, .slice none 0 0] 28 (0, 0))) := ⟨by rw [← hq_]; exact (bvK BK153.out)⟩; have n4_ : Aside0 (wr.heap[gb158]? = some (.cells #[.int .i64 x159000_3, u159001] 28 (0, 0))) := ⟨by rw [← hq_]; exact (bvK BK158.out)⟩; have n5_ : Aside0 (Below w.heap.size w wr) := ⟨by rw [← hq_]; exact hbC⟩; clear HO_11 HO_159001 BK152 BK153 BK158 HB hq_; have HO_11 := n0_; have HO_159001 := n1_; have BK152 := n2_; have BK153 := n3_; have BK158 := n4_; have HB := n5_; clear n0_ n1_ n2_ n3_ n4_ n5_)); have hnb123 := NB158_153.out; have hnc123 := NB153_158.out; have hcz124_0 : wr.cell? ⟨gb158, 0, none⟩ = some (.int .i64 x159000_3) := (blk_cell BK158.out 0).trans rfl; have hcz124_1 : wr.cell? ⟨gb158, 1, none⟩ = some (u159001) := (blk_cell BK158.out 1).trans rfl; have hfz124_0 := blk_frozen BK158.out 0; have hfz124_1 := blk_frozen BK158.out 1; have hcz125_0 : wr.cell? ⟨gb153, 0, none⟩ = some (.int .i64 0) := (blk_cell BK153.out 0).trans rfl; have hcz125_1 : wr.cell? ⟨gb153, 1, none⟩ = some (.slice none 0 0) := (blk_cell BK153.out 1).trans rfl; have hfz125_0 := blk_frozen BK153.out 0; have hfz125_1 := blk_frozen BK153.out 1; obtain ⟨Ao126, co126, eo126⟩ := Kd.R_slice HO_159001.out; subst eo126))
             refine bodyPost_ret (results_ct rfl _ _ gb153 28 #[.int .i64 x159000_3, .slice Ao126 x159001_3.length co126] (0, 0) _ rfl (by (with_reducible repeat (first | refine blk_drewN ?_ _ | refine blk_drew ?_ | refine blk_alloc ?_ _)); refine blk_put (cs := #[.int .i64 x159000_3, .slice none 0 0]) ?_ 1 _ rfl; (with_reducible repeat (first | refine blk_drewN ?_ _ | refine blk_drew ?_ | refine blk_alloc ?_ _)); refine blk_put (cs := #[.int .i64 0, .slice none 0 0]) ?_ 0 _ rfl; (with_reducible repeat (first | refine blk_drewN ?_ _ | refine blk_drew ?_ | refine blk_alloc ?_ _)); exact BK153.out) Try.underlying28 rfl (by kernel_rfl)) rfl ?_
             exact ⟨_, by first | rfl | (simp [errW_none, errW_some] <;> rfl) | (simp only [← hji114]; first | rfl | (simp [errW_none, errW_some] <;> rfl)) | (simp [*, errW_none, errW_some] <;> rfl), by (with_reducible repeat (first | apply Kd.R_alloc | apply Kd.R_drewN | apply Kd.R_drew)); exact Kd.R_mono (Kd.R_far (p := ⟨gb153, 1, none⟩) (Kd.R_far (p := ⟨gb153, 0, none⟩) (Kd.R_types HO_159001.out BK153.out (by decide)) (fun _ hk => hk.2) (.int .i64 x159000_3)) (fun _ hk => hk.2) (.slice Ao126 x159001_3.length co126)) (fun _ hk => trivial), hbC⟩
            ·rw [if_neg c117] at H
             have c117b0 : ((Int.tmod a1 2) == 1) = false := beq_eq_false_iff_ne.mpr c117
             have c117b1 : ((Int.tmod a1 2) != 1) = true := bne_iff_ne.mpr c117
             simp only [Option.some.injEq, Prod.mk.injEq] at H
             obtain ⟨rfl, rfl, rfl⟩ := H
             have hnb127 := NB152_153.out
             have hnc127 := NB153_152.out
             have hnb128 := NB152_158.out
             have hnc128 := NB158_152.out
             have hcz129_0 : wr.cell? ⟨gb152, 0, none⟩ = some (.int .i64 a0_0) := (blk_cell BK152.out 0).trans rfl
             have hcz129_1 : wr.cell? ⟨gb152, 1, none⟩ = some (.slice A0_1 l0_1.length c0_1) := (blk_cell BK152.out 1).trans rfl
             have hfz129_0 := blk_frozen BK152.out 0
             have hfz129_1 := blk_frozen BK152.out 1
             obtain ⟨Ao130, co130, eo130⟩ := Kd.R_slice HO_11.out
             subst eo130
             have p168 : 0 ≤ ((ji114) : Int) := oda
             have q168 : (ji114) < (x11_3.length : Int) := oda
             obtain ⟨ad168, e168, hx168_0⟩ := Kd.at_int (Kd.R_reads' HO_11.out).2.2 (ji114) p168 q168
             cases e168
             replace p168 := eq_true p168
             replace q168 := eq_true q168
             have hnb131 := NB158_153.out
             have hnc131 := NB153_158.out
             have hcz132_0 : wr.cell? ⟨gb158, 0, none⟩ = some (.int .i64 x159000_3) := (blk_cell BK158.out 0).trans rfl
             have hcz132_1 : wr.cell? ⟨gb158, 1, none⟩ = some (u159001) := (blk_cell BK158.out 1).trans rfl
             have hfz132_0 := blk_frozen BK158.out 0
             have hfz132_1 := blk_frozen BK158.out 1
             have hcz133_0 : wr.cell? ⟨gb153, 0, none⟩ = some (.int .i64 0) := (blk_cell BK153.out 0).trans rfl
             have hcz133_1 : wr.cell? ⟨gb153, 1, none⟩ = some (.slice none 0 0) := (blk_cell BK153.out 1).trans rfl
             have hfz133_0 := blk_frozen BK153.out 0
             have hfz133_1 := blk_frozen BK153.out 1
             obtain ⟨Ao134, co134, eo134⟩ := Kd.R_slice HO_159001.out
             subst eo134
             go_wp2
             refine bodyPost_ret (results_ct rfl _ _ gb153 28 #[.int .i64 x159000_3, .slice Ao134 x159001_3.length co134] (0, 0) _ rfl (by (with_reducible repeat (first | refine blk_drewN ?_ _ | refine blk_drew ?_ | refine blk_alloc ?_ _)); refine blk_put (cs := #[.int .i64 x159000_3, .slice none 0 0]) ?_ 1 _ rfl; (with_reducible repeat (first | refine blk_drewN ?_ _ | refine blk_drew ?_ | refine blk_alloc ?_ _)); refine blk_put (cs := #[.int .i64 0, .slice none 0 0]) ?_ 0 _ rfl; (with_reducible repeat (first | refine blk_drewN ?_ _ | refine blk_drew ?_ | refine blk_alloc ?_ _)); exact BK153.out) Try.underlying28 rfl (by kernel_rfl)) rfl ?_
             exact ⟨_, by first | rfl | (simp [errW_none, errW_some] <;> rfl) | (simp only [← hji114]; first | rfl | (simp [errW_none, errW_some] <;> rfl)) | (simp [*, errW_none, errW_some] <;> rfl), by (with_reducible repeat (first | apply Kd.R_alloc | apply Kd.R_drewN | apply Kd.R_drew)); exact Kd.R_mono (Kd.R_far (p := ⟨gb153, 1, none⟩) (Kd.R_far (p := ⟨gb153, 0, none⟩) (Kd.R_types HO_159001.out BK153.out (by decide)) (fun _ hk => hk.2) (.int .i64 x159000_3)) (fun _ hk => hk.2) (.slice Ao134 x159001_3.length co134)) (fun _ hk => trivial), hbC⟩
           ·rw [if_neg c116] at H
            exact absurd H (by simp)
          ·rw [if_neg c115] at H
           exact absurd H (by simp)

end Go.Proofs.Ytpcckoljocpchaa.QFnFixed
