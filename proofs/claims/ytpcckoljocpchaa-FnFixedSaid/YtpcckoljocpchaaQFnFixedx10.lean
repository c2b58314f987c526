-- Written by a program of this session (mk.py). Lean checks it.
import Derived.Test.YtpcckoljocpchaaQFnFixedx0
import Derived.Test.YtpcckoljocpchaaQFnFixedx1
import Derived.Test.YtpcckoljocpchaaQFnFixedx9
namespace Go.Proofs.Ytpcckoljocpchaa.QFnFixed
open Go.RowKit Go.Proofs.YtpcckoljocpchaaW.PrintWords Go.Proofs.YtpcckoljocpchaaW.PrintLast Go.Proofs.YtpcckoljocpchaaW.PrintMore
attribute [local go_sem] max2_int min2_int max_two min_two max_three min_three max_four min_four   -- for this text's walks alone
set_option linter.unusedVariables false
set_option linter.unusedSimpArgs false

/-! ### impl_NeedsInputs: function 28 -/
def impl_NeedsInputs.j0 : Nat → Int → Bool → Int → List (S92) → Option (List Int)
 | 0, _, _, _, _ => none
 | k + 1, x1, x13, x305000, x305001 => if x13 = true then (some ([] : List Int)) else ((impl_Circuit_needs.f k x305000 x305001 x1).bind fun t307 => (if 1 ≤ (wrap64 (1 + x305000)) then (if (wrap64 (1 + x305000)) ≤ (t307.length : Int) then ((impl_listOf.f k ((t307.take ((wrap64 (1 + x305000)) : Int).toNat).drop 1)).bind fun t314 => (some t314)) else (none)) else (none)))
def impl_NeedsInputs.f (k : Nat) (a0_0 : Int) (l0_1 : List (S92)) (a1 : Int) : Option (List Int) := (impl_CircuitValid.f k a0_0 l0_1).bind fun t305 => (if t305 = true then ((impl_Circuit_isEdge.f a0_0 l0_1 a1).bind fun t306 => (impl_NeedsInputs.j0 k a1 (!t306) a0_0 l0_1)) else (impl_NeedsInputs.j0 k a1 true a0_0 l0_1))
theorem impl_NeedsInputs.mono_l : ∀ k, (∀ y0 y1 y2 y3, LeO (impl_NeedsInputs.j0 k y0 y1 y2 y3) (impl_NeedsInputs.j0 (k + 1) y0 y1 y2 y3))
 | 0 => fun _ _ _ _ r h => by simp [impl_NeedsInputs.j0] at h
 | k + 1 => by
  have ih0 := impl_NeedsInputs.mono_l k
  ·intro y0 y1 y2 y3
   unfold impl_NeedsInputs.j0
   repeat' first
   | (with_reducible exact ih0 _ _ _ _)
   | (with_reducible exact impl_CircuitValid.mono _ _ _)
   | (with_reducible exact impl_Circuit_needs.mono _ _ _ _)
   | (with_reducible exact impl_listOf.mono _ _)
   | (with_reducible exact LeO.refl _)
   | (with_reducible exact LeO.none _)
   | (with_reducible refine LeO.ite ?_ ?_)
   | (with_reducible refine LeO.bind ?_ (fun _ => ?_))
   | exact ih0 _ _ _ _
   | exact impl_CircuitValid.mono _ _ _
   | exact impl_Circuit_needs.mono _ _ _ _
   | exact impl_listOf.mono _ _
   | exact LeO.none _
   | refine LeO.ite ?_ ?_
   | refine LeO.bind ?_ (fun _ => ?_)
theorem impl_NeedsInputs.mono : ∀ a0 a1 a2 k, LeO (impl_NeedsInputs.f k a0 a1 a2) (impl_NeedsInputs.f (k + 1) a0 a1 a2) := by
 intro a0 a1 a2 k
 have ih0 := impl_NeedsInputs.mono_l k
 unfold impl_NeedsInputs.f
 repeat' first
   | (with_reducible exact ih0 _ _ _ _)
   | (with_reducible exact impl_CircuitValid.mono _ _ _)
   | (with_reducible exact impl_Circuit_needs.mono _ _ _ _)
   | (with_reducible exact impl_listOf.mono _ _)
   | (with_reducible exact LeO.refl _)
   | (with_reducible exact LeO.none _)
   | (with_reducible refine LeO.ite ?_ ?_)
   | (with_reducible refine LeO.bind ?_ (fun _ => ?_))
   | exact ih0 _ _ _ _
   | exact impl_CircuitValid.mono _ _ _
   | exact impl_Circuit_needs.mono _ _ _ _
   | exact impl_listOf.mono _ _
   | exact LeO.none _
   | refine LeO.ite ?_ ?_
   | refine LeO.bind ?_ (fun _ => ?_)
def impl_NeedsInputs.T3 : Bool × List (List Nat × List Nat) := (true, [([], []), ([], []), ([0, 1], [0, 1]), ([], []), ([3], [3]), ([4], [4]), ([2, 5], [2, 5]), ([6, 2], [6]), ([7, 7, 0, 1, 2, 3, 4, 5, 6, 7], [7])])
def impl_NeedsInputs.B3 : List Nat := [0, 0, 3, 0, 8, 24, 63, 127, 255]
theorem impl_NeedsInputs.tab3 : rtab .any (opsOf Try.f28 3) = impl_NeedsInputs.T3 := by kernel_rfl
theorem impl_NeedsInputs.bits3 : waitsOk impl_NeedsInputs.T3.2 impl_NeedsInputs.B3 = true := by kernel_rfl
set_option maxHeartbeats 8000000 in
set_option maxRecDepth 100000 in
theorem impl_NeedsInputs.calls (k : Nat) (a0_0 : Int) (A0_1 : Option Addr) (c0_1 : Nat) (l0_1 : List (S92)) (a1 : Int) (r : List Int) (w : World) (hr0_1 : Kd.C k92 w A0_1 l0_1.length l0_1) (hc0_1 : l0_1.length ≤ c0_1) (h : impl_NeedsInputs.f k a0_0 l0_1 a1 = some r) :
  Calls Try.prog 28 #[.agg #[.int .i64 a0_0, .slice A0_1 l0_1.length c0_1], .int .i64 a1] w fun e w' => ∃ v0_ : Value, e = .returned (v0_) ∧ Kd.R (Kd.int .i64) 3 w' w.heap.size (fun _ => True) v0_ r ∧ Below w.heap.size w w' := by
 have hu28 := Try.underlying28
 have HR0_1 := Aside0.mk hr0_1
 have HC0_1 := Aside0.mk hc0_1
 clear hr0_1 hc0_1
 have HB := Aside0.mk (Below.refl w.heap.size w)
 have H : ((impl_CircuitValid.f k a0_0 l0_1).bind fun t305 => (if t305 = true then ((impl_Circuit_isEdge.f a0_0 l0_1 a1).bind fun t306 => (impl_NeedsInputs.j0 k a1 (!t306) a0_0 l0_1)) else (impl_NeedsInputs.j0 k a1 true a0_0 l0_1))) = some r := h
 clear h
 have HC3 := Aside0.mk H
 clear H
 go_enter Try.func28, Try.ntmps28
 go_upto_region 1 with (first | ((with_reducible refine gate_dst (N := 2) rfl ?_); refine box_event ?hg (N := 2) ?hd (cs := #[.int .i64 a0_0, .slice A0_1 l0_1.length c0_1]) (t := 28) ?hr ?_; (case hd => rfl); (case hg => rfl); (case hr => first | (go_simp; done) | (go_simp; rfl)); intro gb304 hg w4 hbox hb; have n0_ := Aside0.mk (below_step hbB hb); have n1_ := Aside0.mk (hbox); have n2_ := Aside0.mk ((gwb hg (below_size hbB) : w.heap.size ≤ gb304)); have n3_ := n2_; clear HB; have HB := n0_; have BK304 := n1_; have GW304 := n2_; have GE304 := n3_; clear n0_ n1_ n2_ n3_; clear hb hbox hg))
 (try simp only [Act.put, List.setIfInBounds_toArray, List.set_cons_zero, List.set_cons_succ])
 go_cut [13] (fun v13 wc => ∃ (kq : Nat) (x13_2 : Bool), v13 = .bool x13_2 ∧ Aside0 (impl_NeedsInputs.j0 kq a1 x13_2 a0_0 l0_1 = some r) ∧ Aside0 (kq ≤ k) ∧ Aside0 (wc.heap[gb304]? = some (.cells #[.int .i64 a0_0, (.slice A0_1 l0_1.length c0_1)] 28 (0, 0))) ∧ Aside0 (Below w.heap.size w wc))
 case first =>
  have H := HC3.out
  clear HC3
  replace H := Option.bind_eq_some_iff.mp H
  obtain ⟨t305, A50, H⟩ := H
  replace H : (if t305 = true then ((impl_Circuit_isEdge.f a0_0 l0_1 a1).bind fun t306 => (impl_NeedsInputs.j0 k a1 (!t306) a0_0 l0_1)) else (impl_NeedsInputs.j0 k a1 true a0_0 l0_1)) = some r := H
  have A5 := Aside0.mk A50
  clear A50
  by_cases c6 : t305 = true
  ·subst c6
   have H1 : ((impl_Circuit_isEdge.f a0_0 l0_1 a1).bind fun t306 => (impl_NeedsInputs.j0 k a1 (!t306) a0_0 l0_1)) = some r := by rw [if_pos rfl] at H; exact H
   clear H
   have H := H1
   clear H1
   replace H := Option.bind_eq_some_iff.mp H
   obtain ⟨t306, A70, H⟩ := H
   replace H : (impl_NeedsInputs.j0 k a1 (!t306) a0_0 l0_1) = some r := H
   have A7 := Aside0.mk A70
   clear A70
   have H' := Aside0.mk H
   clear H
   have hcz8_0 : w4.cell? ⟨gb304, 0, none⟩ = some (.int .i64 a0_0) := (blk_cell BK304.out 0).trans rfl
   have hcz8_1 : w4.cell? ⟨gb304, 1, none⟩ = some (.slice A0_1 l0_1.length c0_1) := (blk_cell BK304.out 1).trans rfl
   have hfz8_0 := blk_frozen BK304.out 0
   have hfz8_1 := blk_frozen BK304.out 1
   go_wp2_with (first | ((with_reducible refine gate_callee (f := 23) rfl ?_); refine goesL_ (some 6) rfl rfl Try.func23 (by kernel_rfl) rfl #[.agg #[.int .i64 a0_0, .slice A0_1 l0_1.length c0_1]] rfl lmB ?_; (with_reducible refine (impl_CircuitValid.calls k a0_0 _ _ l0_1 true _ ?side1 ?side2 A5.out).mono ?_); (case side1 => exact kcR (Kd.C_below HR0_1.out HB.out)); (case side2 => exact HC0_1.out); rintro e w9 ⟨rfl, hb⟩; refine ⟨_, rfl, ?_⟩; have n0_ := Aside0.mk (blk_below (g := gb304) (o := .cells #[.int .i64 a0_0, .slice A0_1 l0_1.length c0_1] 28 (0, 0)) (bvK BK304.out) hb); have n1_ := Aside0.mk (below_step hbC hb); clear BK304; clear HB; have BK304 := n0_; have HB := n1_; clear n0_ n1_; (try clear hb); (try clear hb2); (try clear hk); (try clear hi); have hcz10_0 : w9.cell? ⟨gb304, 0, none⟩ = some (.int .i64 a0_0) := (blk_cell BK304.out 0).trans rfl; have hcz10_1 : w9.cell? ⟨gb304, 1, none⟩ = some (.slice A0_1 l0_1.length c0_1) := (blk_cell BK304.out 1).trans rfl; have hfz10_0 := blk_frozen BK304.out 0; have hfz10_1 := blk_frozen BK304.out 1) | (go_at_call 59; (with_reducible refine (impl_Circuit_isEdge.calls a0_0 _ _ l0_1 a1 t306 _ ?side1 ?side2 A7.out).mono ?_); (case side1 => exact kcR (Kd.C_below HR0_1.out HB.out)); (case side2 => exact HC0_1.out); rintro e w11 ⟨rfl, hb⟩; have n0_ := Aside0.mk (blk_below (g := gb304) (o := .cells #[.int .i64 a0_0, .slice A0_1 l0_1.length c0_1] 28 (0, 0)) (bvK BK304.out) hb); have n1_ := Aside0.mk (below_step hbC hb); clear BK304; clear HB; have BK304 := n0_; have HB := n1_; clear n0_ n1_; (try clear hb); (try clear hb2); (try clear hk); (try clear hi)))
   go_meet
   case rel => exact ⟨_, (!t306), rsd, H', ⟨by first | omega | exact Nat.le_refl _⟩, ⟨bvK BK304.out⟩, ⟨hbC⟩⟩
  ·replace c6 := Bool.eq_false_iff.mpr c6
   subst c6
   have H1 : (impl_NeedsInputs.j0 k a1 true a0_0 l0_1) = some r := by rw [if_neg (show ¬ (false = true) by decide)] at H; exact H
   clear H
   have H := H1
   clear H1
   have H' := Aside0.mk H
   clear H
   have hcz12_0 : w4.cell? ⟨gb304, 0, none⟩ = some (.int .i64 a0_0) := (blk_cell BK304.out 0).trans rfl
   have hcz12_1 : w4.cell? ⟨gb304, 1, none⟩ = some (.slice A0_1 l0_1.length c0_1) := (blk_cell BK304.out 1).trans rfl
   have hfz12_0 := blk_frozen BK304.out 0
   have hfz12_1 := blk_frozen BK304.out 1
   go_wp2_with (first | ((with_reducible refine gate_callee (f := 23) rfl ?_); refine goesL_ (some 6) rfl rfl Try.func23 (by kernel_rfl) rfl #[.agg #[.int .i64 a0_0, .slice A0_1 l0_1.length c0_1]] rfl lmB ?_; (with_reducible refine (impl_CircuitValid.calls k a0_0 _ _ l0_1 false _ ?side1 ?side2 A5.out).mono ?_); (case side1 => exact kcR (Kd.C_below HR0_1.out HB.out)); (case side2 => exact HC0_1.out); rintro e w13 ⟨rfl, hb⟩; refine ⟨_, rfl, ?_⟩; have n0_ := Aside0.mk (blk_below (g := gb304) (o := .cells #[.int .i64 a0_0, .slice A0_1 l0_1.length c0_1] 28 (0, 0)) (bvK BK304.out) hb); have n1_ := Aside0.mk (below_step hbC hb); clear BK304; clear HB; have BK304 := n0_; have HB := n1_; clear n0_ n1_; (try clear hb); (try clear hb2); (try clear hk); (try clear hi)))
   go_meet
   case rel => exact ⟨_, (true), rsd, H', ⟨by first | omega | exact Nat.le_refl _⟩, ⟨bvK BK304.out⟩, ⟨hbC⟩⟩
 case rest =>
  clear HC3
  try clear c2
  try clear p2
  try clear c6
  try clear hcz10_0
  try clear hcz10_1
  try clear hcz12_0
  try clear hcz12_1
  try clear hcz8_0
  try clear hcz8_1
  try clear hfz10_0
  try clear hfz10_1
  try clear hfz12_0
  try clear hfz12_1
  try clear hfz8_0
  try clear hfz8_1
  obtain ⟨kq, x13_2, rfl, HA, HJ2, BK304, HB⟩ := hcut
  cases kq with
  | zero => exact absurd HA.out (by simp [impl_NeedsInputs.j0])
  | succ kj2 =>
   have H := HA.out
   clear HA
   simp only [impl_NeedsInputs.j0] at H
   by_cases c14 : x13_2 = true
   ·subst c14
    have H1 : (some ([] : List Int)) = some r := by rw [if_pos rfl] at H; exact H
    clear H
    have H := H1
    clear H1
    obtain rfl := Option.some.inj H
    go_wp2
    go_ret
    exact ⟨_, ers, by first | exact Kd.R_nil _ _ _ _ _ | exact Kd.N_nil _ _ _ _ _ | exact Kd.V_nil _ _ _ _ _ | exact Kd.Q_nil _ _ _ _ _ | exact Kd.S_nil _ _ _ _ _, hbC⟩
   ·replace c14 := Bool.eq_false_iff.mpr c14
    subst c14
    have H1 : ((impl_Circuit_needs.f kj2 a0_0 l0_1 a1).bind fun t307 => (if 1 ≤ (wrap64 (1 + a0_0)) then (if (wrap64 (1 + a0_0)) ≤ (t307.length : Int) then ((impl_listOf.f kj2 ((t307.take ((wrap64 (1 + a0_0)) : Int).toNat).drop 1)).bind fun t314 => (some t314)) else (none)) else (none))) = some r := by rw [if_neg (show ¬ (false = true) by decide)] at H; exact H
    clear H
    have H := H1
    clear H1
    replace H := Option.bind_eq_some_iff.mp H
    obtain ⟨t307, A150, H⟩ := H
    replace H : (if 1 ≤ (wrap64 (1 + a0_0)) then (if (wrap64 (1 + a0_0)) ≤ (t307.length : Int) then ((impl_listOf.f kj2 ((t307.take ((wrap64 (1 + a0_0)) : Int).toNat).drop 1)).bind fun t314 => (some t314)) else (none)) else (none)) = some r := H
    have A15 := Aside0.mk A150
    clear A150
    by_cases c16 : 1 ≤ (wrap64 (1 + a0_0))
    ·rw [if_pos c16] at H
     have c16b0 := eq_true c16
     have c16b1 : decide (1 ≤ (wrap64 (1 + a0_0))) = true := decide_eq_true c16
     by_cases c17 : (wrap64 (1 + a0_0)) ≤ (t307.length : Int)
     ·rw [if_pos c17] at H
      have c17b0 := eq_true c17
      have c17b1 : decide ((wrap64 (1 + a0_0)) ≤ (t307.length : Int)) = true := decide_eq_true c17
      obtain ⟨y310, hy310⟩ : ∃ y_ : List Bool, y_ = ((t307.take ((wrap64 (1 + a0_0)) : Int).toNat).drop 1) := ⟨_, rfl⟩
      replace H : ((impl_listOf.f kj2 y310).bind fun t314 => (some t314)) = some r := by first | (rw [hy310]; with_reducible exact H) | (have H2_ := (Option.bind_some _ _).symm.trans H; rw [hy310]; with_reducible exact H2_) | (have H2_ := (Option.bind_some _ _).symm.trans H; with_reducible exact H2_) | with_reducible exact H | (rw [hy310]; exact H) | exact H
      have Ny310 := Aside0.mk hy310
      clear hy310
      replace H := Option.bind_eq_some_iff.mp H
      obtain ⟨t314, A180, H⟩ := H
      replace H : (some t314) = some r := H
      have A18 := Aside0.mk A180
      clear A180
      obtain rfl := Option.some.inj H
      try go_wp2
      have n0_ := Aside0.mk (blk_drew BK304.out)
      have n1_ := Aside0.mk (below_drew1 HB.out)
      clear BK304
      clear HB
      have BK304 := n0_
      have HB := n1_
      clear n0_ n1_
      refine start_ (n := 9) (S := fun w' => w'.cell? ⟨gb304, 0, none⟩ = some (.int .i64 a0_0) ∧ w'.cell? ⟨gb304, 1, none⟩ = some (.slice A0_1 l0_1.length c0_1)) (ds := []) (Pt.bm 9 0) (by kernel_rfl) rfl rfl ⟨(blk_cell BK304.out 0).trans rfl, (blk_cell BK304.out 1).trans rfl⟩ (fun hHeld => ?_); refine with_tabW impl_NeedsInputs.tab3 impl_NeedsInputs.bits3 (fun HT_ HW_ => ?_)
      generalize wc.drew = w19 at BK304 HB hHeld ⊢
      refine Pt.pu 1 (some 15) (Pt.bm 9 2) (any_of HT_.out (by kernel_rfl)) ?_
      refine Pt.pu 3 (some 17) (Pt.bm 9 10) (any_of HT_.out (by kernel_rfl)) ?_
      refine Pt.tk 0 (some 14) (Pt.bm 9 11) rfl rfl (take_ofW HT_.out HW_.out (by kernel_rfl)) hHeld (Or.inl ⟨by rfl, by rintro w' ⟨s0, s1⟩; go_simp; with_reducible rfl⟩) ?_
      refine Pt.tk 4 (some 18) (Pt.bm 9 27) rfl rfl (take_ofW HT_.out HW_.out (by kernel_rfl)) hHeld (Or.inl ⟨by rfl, by rintro w' ⟨s0, s1⟩; go_simp; with_reducible rfl⟩) ?_
      refine Pt.pu 5 (some 19) (Pt.bm 9 59) (any_of HT_.out (by kernel_rfl)) ?_
      refine one_ (i := 2) (N := some 16) (Pt.bm 9 63) rfl rfl (one_of HT_.out (by kernel_rfl)) (by decide) (fun K hK => ?_)
      refine goes_ Try.func82 (by kernel_rfl) rfl #[.agg #[.int .i64 a0_0, .slice A0_1 l0_1.length c0_1], .int .i64 a1] (by rfl) rfl rfl lmB ?_
      with_reducible refine (impl_Circuit_needs.calls kj2 a0_0 _ _ l0_1 a1 t307 _ ?side1 ?side2 A15.out).mono ?_
      (case side1 => exact kcR (Kd.C_below HR0_1.out HB.out))
      (case side2 => exact HC0_1.out)
      rintro e w20 ⟨v308, rfl, ho0, hb⟩
      refine ⟨_, rfl, ?_⟩
      have n0_ := Aside0.mk (Kd.R_lower ho0 (below_size hbC))
      have n1_ := Aside0.mk (blk_below (g := gb304) (o := .cells #[.int .i64 a0_0, .slice A0_1 l0_1.length c0_1] 28 (0, 0)) (bvK BK304.out) hb)
      have n2_ := Aside0.mk (below_step hbC hb)
      clear BK304
      clear HB
      have HO309 := n0_
      have BK304 := n1_
      have HB := n2_
      clear n0_ n1_ n2_
      (try clear hb)
      (try clear hb2)
      (try clear hk)
      (try clear hi)
      (try clear ho0)
      obtain ⟨Ao22, co22, eo22⟩ := Kd.R_slice HO309.out
      (first | subst eo22 | (injection eo22 with f1_ f2_ f3_; have f4_ := f1_.symm; have f5_ := f3_.symm; clear f1_ f2_ f3_; subst f4_; subst f5_))
      have q21 : ((wrap64 (1 + a0_0)) : Int) ≤ ((t307.length : Int) : Int) := oda
      obtain ⟨i021, hi021, _, hsz21, _⟩ := info_parts info4
      have hroom21 : t307.length ≤ co22 := (Kd.R_reads' HO309.out).2.1
      have hC21 : Kd.C Kd.bool _ Ao22 t307.length t307 := (Kd.R_reads' HO309.out).2.2
      have ql21 : (1 : Int) ≤ ((wrap64 (1 + a0_0)) : Int) := oda
      have hcut21 := cut_mid (P := Try.prog) 99 4 .i64 .i64 Try.underlying99 hi021 1 hsz21 Ao22 t307.length co22 1 (wrap64 (1 + a0_0)) (by omega) ql21 q21 hroom21
      have hr21 := Kd.C_mid (lo := (1 : Int).toNat) (hi := ((wrap64 (1 + a0_0)) : Int).toNat) (c := co22) hC21 (by omega) (by omega) hroom21
      obtain ⟨A21, hA21⟩ : ∃ A1, A1 = (if co22 = (1 : Int).toNat then Ao22 else (Ao22 : Option Addr).map (·.add ((1 : Int).toNat * 1))) := ⟨_, rfl⟩
      obtain ⟨c21, hc21⟩ : ∃ c1, c1 = co22 - (1 : Int).toNat := ⟨_, rfl⟩
      have hy21 : y310.length = ((wrap64 (1 + a0_0)) : Int).toNat - (1 : Int).toNat := (by rw [Ny310.out, List.length_drop, List.length_take] <;> omega)
      rw [show ((t307).take ((wrap64 (1 + a0_0)) : Int).toNat).drop (1 : Int).toNat = y310 from Ny310.out.symm] at hr21
      replace hr21 : Kd.C Kd.bool _ A21 y310.length y310 := (by rw [hA21]; exact hr21)
      rw [← hy21, ← hA21, ← hc21] at hcut21
      have HR313 := Aside0.mk hr21
      have HC313 := Aside0.mk (show y310.length ≤ c21 from by rw [hy21, hc21]; exact Nat.sub_le_sub_right (Nat.le_trans (by omega) hroom21) _)
      clear hr21 hC21 hroom21 hi021 hsz21 hc21
      have KY21 := Aside0.mk hy21
      have KA21 := Aside0.mk hA21
      clear hy21 hA21
      have KL21 := Aside0.mk (show ((wrap64 (1 + a0_0)) : Int).toNat ≤ t307.length from by omega)
      have KM21 := Aside0.mk (show 1 ≤ ((wrap64 (1 + a0_0)) : Int).toNat from by omega)
      replace q21 := eq_true q21
      refine hK.out _ _ ⟨(blk_cell BK304.out 0).trans rfl, (blk_cell BK304.out 1).trans rfl⟩ (fun hHeld => ?_)
      clear hK K
      refine norm_ (a' := ?_) ?_ ?_
      rotate_left
      ·show Act.put _ (some 16) _ = _
       simp only [Act.put, List.setIfInBounds_toArray, List.set_cons_zero, List.set_cons_succ, i64_w, i32_w]
       rfl
      refine Pt.pu 6 (some 20) (Pt.bm 9 127) (any_of HT_.out (by kernel_rfl)) ?_
      refine one_ (i := 7) (N := some 21) (Pt.bm 9 255) rfl rfl (one_of HT_.out (by kernel_rfl)) (by decide) (fun K hK => ?_)
      refine goes_ Try.func81 (by kernel_rfl) rfl #[.slice A21 y310.length c21] (by rfl) rfl rfl lmB ?_
      with_reducible refine (impl_listOf.calls kj2 _ _ y310 t314 _ ?side1 ?side2 A18.out).mono ?_
      (case side1 => repeat (first | exact (by repeat (first | (with_reducible exact HR313.out) | (with_reducible refine Kd.C_alloc ?_ _) | (with_reducible refine Kd.C_drewN ?_ _) | (with_reducible refine Kd.C_drew ?_) | exact HR313.out)) | (with_reducible refine Kd.C_alloc ?_ _) | (with_reducible refine Kd.C_drewN ?_ _) | (with_reducible refine Kd.C_drew ?_)))
      (case side2 => exact HC313.out)
      rintro e w23 ⟨v315, rfl, ho0, hb⟩
      refine ⟨_, rfl, ?_⟩
      have n0_ := Aside0.mk (Kd.R_below (rvR HO309.out) hb)
      have n1_ := Aside0.mk (Kd.R_lower ho0 (below_size hbC))
      have n2_ := Aside0.mk (blk_below (g := gb304) (o := .cells #[.int .i64 a0_0, .slice A0_1 l0_1.length c0_1] 28 (0, 0)) (bvK BK304.out) hb)
      have n3_ := Aside0.mk (Kd.C_below (by repeat (first | (with_reducible exact HR313.out) | (with_reducible refine Kd.C_alloc ?_ _) | (with_reducible refine Kd.C_drewN ?_ _) | (with_reducible refine Kd.C_drew ?_) | exact HR313.out)) hb)
      have n4_ := Aside0.mk (below_step hbC hb)
      clear HO309
      clear BK304
      clear HR313
      clear HB
      have HO309 := n0_
      have HO316 := n1_
      have BK304 := n2_
      have HR313 := n3_
      have HB := n4_
      clear n0_ n1_ n2_ n3_ n4_
      (try clear hb)
      (try clear hb2)
      (try clear hk)
      (try clear hi)
      (try clear ho0)
      refine hK.out _ _ ⟨(blk_cell BK304.out 0).trans rfl, (blk_cell BK304.out 1).trans rfl⟩ (fun hHeld => ?_)
      clear hK K
      refine norm_ (a' := ?_) ?_ ?_
      rotate_left
      ·show Act.put _ (some 21) _ = _
       simp only [Act.put, List.setIfInBounds_toArray, List.set_cons_zero, List.set_cons_succ, i64_w, i32_w]
       rfl
      refine Pt.pu 8 (some 4) (Pt.bm 9 511) (any_of HT_.out (by kernel_rfl)) ?_
      refine done_ (done_of HT_.out (by kernel_rfl)) ?_
      try go_wp2
      go_ret
      exact ⟨_, ers, by (with_reducible repeat (first | apply Kd.R_alloc | apply Kd.R_drewN | apply Kd.R_drew)); exact HO316.out, hbC⟩
     ·rw [if_neg c17] at H
      exact absurd H (by simp)
    ·rw [if_neg c16] at H
     exact absurd H (by simp)

end Go.Proofs.Ytpcckoljocpchaa.QFnFixed
