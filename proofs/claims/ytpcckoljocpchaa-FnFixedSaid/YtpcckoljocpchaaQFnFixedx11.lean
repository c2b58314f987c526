-- Written by a program of this session (mk.py). Lean checks it.
import Derived.Test.YtpcckoljocpchaaQFnFixedx0
import Derived.Test.YtpcckoljocpchaaQFnFixedx2
import Derived.Test.YtpcckoljocpchaaQFnFixedx4
import Derived.Test.YtpcckoljocpchaaQFnFixedx6
import Derived.Test.YtpcckoljocpchaaQFnFixedx8
import Derived.Test.YtpcckoljocpchaaQFnFixedx9
import Derived.Test.YtpcckoljocpchaaQFnFixedx10
namespace Go.Proofs.Ytpcckoljocpchaa.QFnFixed
open Go.RowKit Go.Proofs.YtpcckoljocpchaaW.PrintWords Go.Proofs.YtpcckoljocpchaaW.PrintLast Go.Proofs.YtpcckoljocpchaaW.PrintMore
attribute [local go_sem] max2_int min2_int max_two min_two max_three min_three max_four min_four   -- for this text's walks alone
set_option linter.unusedVariables false
set_option linter.unusedSimpArgs false

/-! ### laws_FnFixed: function 6 -/
mutual
def laws_FnFixed.j0 : Nat → Int → Int → Int → Int → Int → Bool → Int → List (S92) → Int → List (S92) → Int → List (S92) → Option (Bool)
 | 0, _, _, _, _, _, _, _, _, _, _, _, _ => none
 | k + 1, x4, x5, x6, x8, x10, x56, x325000, x325001, x331000, x331001, x337000, x337001 => if x56 = true then (if x8 = x10 then (if (x331001.length : Int) = (x337001.length : Int) then (some (x8 == (-1))) else (some false)) else (some false)) else (laws_FnFixed.l0 k x4 x5 x6 x8 0 x325000 x325001 x331000 x331001)
def laws_FnFixed.l0 : Nat → Int → Int → Int → Int → Int → Int → List (S92) → Int → List (S92) → Option (Bool)
 | 0, _, _, _, _, _, _, _, _, _ => none
 | k + 1, x4, x5, x6, x8, x73, x325000, x325001, x331000, x331001 => if x73 < 8 then (laws_FnFixed.l1 k x4 x5 x6 x8 x73 (([] : List Int)) x73 x325000 0 x325000 x325001 x331000 x331001) else ((impl_NeedsInputs.f k x331000 x331001 x8).bind fun t337 => ((laws_wcHas.f k t337 x5).bind fun t340 => (some (!t340))))
def laws_FnFixed.l1 : Nat → Int → Int → Int → Int → Int → List Int → Int → Int → Int → Int → List (S92) → Int → List (S92) → Option (Bool)
 | 0, _, _, _, _, _, _, _, _, _, _, _, _, _ => none
 | k + 1, x4, x5, x6, x8, x11, x12, x73, x78, x79, x325000, x325001, x331000, x331001 => if x79 < x78 then (if 0 ≤ (Int.tmod x79 3) then (if x12.length < 17592186044416 then (laws_FnFixed.l1 k x4 x5 x6 x8 x11 (x12 ++ [Int.tmod (shr .i64 x11 (Int.tmod x79 3)) 2]) x73 x78 (wrap64 (x79 + 1)) x325000 x325001 x331000 x331001) else (none)) else (none)) else ((impl_EdgeValue.f k x331000 x331001 x12 x8).bind fun t347 => (if 0 ≤ x5 then (if x5 < (x12.length : Int) then ((impl_EdgeValue.f k x325000 x325001 (x12.set (x5 : Int).toNat x6) x4).bind fun t349 => (if t349 = t347 then (laws_FnFixed.l0 k x4 x5 x6 x8 (wrap64 (x73 + 1)) x325000 x325001 x331000 x331001) else (some false))) else (none)) else (none)))
end
def laws_FnFixed.f (k : Nat) (l0 : List Int) : Option (Bool) := if (l0.length : Int) > 1048576 then (some true) else ((spec_DrawFixed.f k l0).bind fun bt317 => ((impl_Fixed.f k bt317.1 bt317.2.1 bt317.2.2.1 bt317.2.2.2.1 bt317.2.2.2.2).bind fun bt325 => ((spec_Fixed.f k bt317.1 bt317.2.1 bt317.2.2.1 bt317.2.2.2.1 bt317.2.2.2.2).bind fun bt331 => (if bt325.2.2 = bt331.2.2 then (if (bt325.2.1.length : Int) = (bt331.2.1.length : Int) then (laws_FnFixed.j0 k bt317.2.2.1 bt317.2.2.2.1 bt317.2.2.2.2 bt325.2.2 bt331.2.2 (decide (bt325.2.2 < 0)) bt317.1 bt317.2.1 bt325.1 bt325.2.1 bt331.1 bt331.2.1) else (laws_FnFixed.j0 k bt317.2.2.1 bt317.2.2.2.1 bt317.2.2.2.2 bt325.2.2 bt331.2.2 true bt317.1 bt317.2.1 bt325.1 bt325.2.1 bt331.1 bt331.2.1)) else (laws_FnFixed.j0 k bt317.2.2.1 bt317.2.2.2.1 bt317.2.2.2.2 bt325.2.2 bt331.2.2 true bt317.1 bt317.2.1 bt325.1 bt325.2.1 bt331.1 bt331.2.1)))))
theorem laws_FnFixed.mono_l : ∀ k, (∀ y0 y1 y2 y3 y4 y5 y6 y7 y8 y9 y10 y11, LeO (laws_FnFixed.j0 k y0 y1 y2 y3 y4 y5 y6 y7 y8 y9 y10 y11) (laws_FnFixed.j0 (k + 1) y0 y1 y2 y3 y4 y5 y6 y7 y8 y9 y10 y11)) ∧ (∀ y0 y1 y2 y3 y4 y5 y6 y7 y8, LeO (laws_FnFixed.l0 k y0 y1 y2 y3 y4 y5 y6 y7 y8) (laws_FnFixed.l0 (k + 1) y0 y1 y2 y3 y4 y5 y6 y7 y8)) ∧ (∀ y0 y1 y2 y3 y4 y5 y6 y7 y8 y9 y10 y11 y12, LeO (laws_FnFixed.l1 k y0 y1 y2 y3 y4 y5 y6 y7 y8 y9 y10 y11 y12) (laws_FnFixed.l1 (k + 1) y0 y1 y2 y3 y4 y5 y6 y7 y8 y9 y10 y11 y12))
 | 0 => ⟨fun _ _ _ _ _ _ _ _ _ _ _ _ r h => by simp [laws_FnFixed.j0] at h, fun _ _ _ _ _ _ _ _ _ r h => by simp [laws_FnFixed.l0] at h, fun _ _ _ _ _ _ _ _ _ _ _ _ _ r h => by simp [laws_FnFixed.l1] at h⟩
 | k + 1 => by
  obtain ⟨ih0, ih1, ih2⟩ := laws_FnFixed.mono_l k
  refine ⟨?_, ?_, ?_⟩
  ·intro y0 y1 y2 y3 y4 y5 y6 y7 y8 y9 y10 y11
   unfold laws_FnFixed.j0
   repeat' first
   | (with_reducible exact ih0 _ _ _ _ _ _ _ _ _ _ _ _)
   | (with_reducible exact ih1 _ _ _ _ _ _ _ _ _)
   | (with_reducible exact ih2 _ _ _ _ _ _ _ _ _ _ _ _ _)
   | (with_reducible exact impl_EdgeValue.mono _ _ _ _ _)
   | (with_reducible exact impl_Fixed.mono _ _ _ _ _ _)
   | (with_reducible exact impl_NeedsInputs.mono _ _ _ _)
   | (with_reducible exact laws_wcHas.mono _ _ _)
   | (with_reducible exact spec_DrawFixed.mono _ _)
   | (with_reducible exact spec_Fixed.mono _ _ _ _ _ _)
   | (with_reducible exact LeO.refl _)
   | (with_reducible exact LeO.none _)
   | (with_reducible refine LeO.ite ?_ ?_)
   | (with_reducible refine LeO.bind ?_ (fun _ => ?_))
   | exact ih0 _ _ _ _ _ _ _ _ _ _ _ _
   | exact ih1 _ _ _ _ _ _ _ _ _
   | exact ih2 _ _ _ _ _ _ _ _ _ _ _ _ _
   | exact impl_EdgeValue.mono _ _ _ _ _
   | exact impl_Fixed.mono _ _ _ _ _ _
   | exact impl_NeedsInputs.mono _ _ _ _
   | exact laws_wcHas.mono _ _ _
   | exact spec_DrawFixed.mono _ _
   | exact spec_Fixed.mono _ _ _ _ _ _
   | exact LeO.none _
   | refine LeO.ite ?_ ?_
   | refine LeO.bind ?_ (fun _ => ?_)
  ·intro y0 y1 y2 y3 y4 y5 y6 y7 y8
   unfold laws_FnFixed.l0
   repeat' first
   | (with_reducible exact ih0 _ _ _ _ _ _ _ _ _ _ _ _)
   | (with_reducible exact ih1 _ _ _ _ _ _ _ _ _)
   | (with_reducible exact ih2 _ _ _ _ _ _ _ _ _ _ _ _ _)
   | (with_reducible exact impl_EdgeValue.mono _ _ _ _ _)
   | (with_reducible exact impl_Fixed.mono _ _ _ _ _ _)
   | (with_reducible exact impl_NeedsInputs.mono _ _ _ _)
   | (with_reducible exact laws_wcHas.mono _ _ _)
   | (with_reducible exact spec_DrawFixed.mono _ _)
   | (with_reducible exact spec_Fixed.mono _ _ _ _ _ _)
   | (with_reducible exact LeO.refl _)
   | (with_reducible exact LeO.none _)
   | (with_reducible refine LeO.ite ?_ ?_)
   | (with_reducible refine LeO.bind ?_ (fun _ => ?_))
   | exact ih0 _ _ _ _ _ _ _ _ _ _ _ _
   | exact ih1 _ _ _ _ _ _ _ _ _
   | exact ih2 _ _ _ _ _ _ _ _ _ _ _ _ _
   | exact impl_EdgeValue.mono _ _ _ _ _
   | exact impl_Fixed.mono _ _ _ _ _ _
   | exact impl_NeedsInputs.mono _ _ _ _
   | exact laws_wcHas.mono _ _ _
   | exact spec_DrawFixed.mono _ _
   | exact spec_Fixed.mono _ _ _ _ _ _
   | exact LeO.none _
   | refine LeO.ite ?_ ?_
   | refine LeO.bind ?_ (fun _ => ?_)
  ·intro y0 y1 y2 y3 y4 y5 y6 y7 y8 y9 y10 y11 y12
   unfold laws_FnFixed.l1
   repeat' first
   | (with_reducible exact ih0 _ _ _ _ _ _ _ _ _ _ _ _)
   | (with_reducible exact ih1 _ _ _ _ _ _ _ _ _)
   | (with_reducible exact ih2 _ _ _ _ _ _ _ _ _ _ _ _ _)
   | (with_reducible exact impl_EdgeValue.mono _ _ _ _ _)
   | (with_reducible exact impl_Fixed.mono _ _ _ _ _ _)
   | (with_reducible exact impl_NeedsInputs.mono _ _ _ _)
   | (with_reducible exact laws_wcHas.mono _ _ _)
   | (with_reducible exact spec_DrawFixed.mono _ _)
   | (with_reducible exact spec_Fixed.mono _ _ _ _ _ _)
   | (with_reducible exact LeO.refl _)
   | (with_reducible exact LeO.none _)
   | (with_reducible refine LeO.ite ?_ ?_)
   | (with_reducible refine LeO.bind ?_ (fun _ => ?_))
   | exact ih0 _ _ _ _ _ _ _ _ _ _ _ _
   | exact ih1 _ _ _ _ _ _ _ _ _
   | exact ih2 _ _ _ _ _ _ _ _ _ _ _ _ _
   | exact impl_EdgeValue.mono _ _ _ _ _
   | exact impl_Fixed.mono _ _ _ _ _ _
   | exact impl_NeedsInputs.mono _ _ _ _
   | exact laws_wcHas.mono _ _ _
   | exact spec_DrawFixed.mono _ _
   | exact spec_Fixed.mono _ _ _ _ _ _
   | exact LeO.none _
   | refine LeO.ite ?_ ?_
   | refine LeO.bind ?_ (fun _ => ?_)
theorem laws_FnFixed.mono : ∀ a0 k, LeO (laws_FnFixed.f k a0) (laws_FnFixed.f (k + 1) a0) := by
 intro a0 k
 obtain ⟨ih0, ih1, ih2⟩ := laws_FnFixed.mono_l k
 unfold laws_FnFixed.f
 repeat' first
   | (with_reducible exact ih0 _ _ _ _ _ _ _ _ _ _ _ _)
   | (with_reducible exact ih1 _ _ _ _ _ _ _ _ _)
   | (with_reducible exact ih2 _ _ _ _ _ _ _ _ _ _ _ _ _)
   | (with_reducible exact impl_EdgeValue.mono _ _ _ _ _)
   | (with_reducible exact impl_Fixed.mono _ _ _ _ _ _)
   | (with_reducible exact impl_NeedsInputs.mono _ _ _ _)
   | (with_reducible exact laws_wcHas.mono _ _ _)
   | (with_reducible exact spec_DrawFixed.mono _ _)
   | (with_reducible exact spec_Fixed.mono _ _ _ _ _ _)
   | (with_reducible exact LeO.refl _)
   | (with_reducible exact LeO.none _)
   | (with_reducible refine LeO.ite ?_ ?_)
   | (with_reducible refine LeO.bind ?_ (fun _ => ?_))
   | exact ih0 _ _ _ _ _ _ _ _ _ _ _ _
   | exact ih1 _ _ _ _ _ _ _ _ _
   | exact ih2 _ _ _ _ _ _ _ _ _ _ _ _ _
   | exact impl_EdgeValue.mono _ _ _ _ _
   | exact impl_Fixed.mono _ _ _ _ _ _
   | exact impl_NeedsInputs.mono _ _ _ _
   | exact laws_wcHas.mono _ _ _
   | exact spec_DrawFixed.mono _ _
   | exact spec_Fixed.mono _ _ _ _ _ _
   | exact LeO.none _
   | refine LeO.ite ?_ ?_
   | refine LeO.bind ?_ (fun _ => ?_)
set_option maxHeartbeats 8000000 in
set_option maxRecDepth 100000 in
theorem laws_FnFixed.calls (k : Nat) (A0 : Option Addr) (c0 : Nat) (l0 : List Int) (r : Bool) (w : World) (hr0 : Kd.C (Kd.int .u8) w A0 l0.length l0) (hc0 : l0.length ≤ c0) (h : laws_FnFixed.f k l0 = some r) :
  Calls Try.prog 6 #[.slice A0 l0.length c0] w fun e w' => e = .returned (.bool r) ∧ Below w.heap.size w w' := by
 have hu28 := Try.underlying28
 have HR0 := Aside0.mk hr0
 have HC0 := Aside0.mk hc0
 clear hr0 hc0
 have HB := Aside0.mk (Below.refl w.heap.size w)
 have H : (if (l0.length : Int) > 1048576 then (some true) else ((spec_DrawFixed.f k l0).bind fun bt317 => ((impl_Fixed.f k bt317.1 bt317.2.1 bt317.2.2.1 bt317.2.2.2.1 bt317.2.2.2.2).bind fun bt325 => ((spec_Fixed.f k bt317.1 bt317.2.1 bt317.2.2.1 bt317.2.2.2.1 bt317.2.2.2.2).bind fun bt331 => (if bt325.2.2 = bt331.2.2 then (if (bt325.2.1.length : Int) = (bt331.2.1.length : Int) then (laws_FnFixed.j0 k bt317.2.2.1 bt317.2.2.2.1 bt317.2.2.2.2 bt325.2.2 bt331.2.2 (decide (bt325.2.2 < 0)) bt317.1 bt317.2.1 bt325.1 bt325.2.1 bt331.1 bt331.2.1) else (laws_FnFixed.j0 k bt317.2.2.1 bt317.2.2.2.1 bt317.2.2.2.2 bt325.2.2 bt331.2.2 true bt317.1 bt317.2.1 bt325.1 bt325.2.1 bt331.1 bt331.2.1)) else (laws_FnFixed.j0 k bt317.2.2.1 bt317.2.2.2.1 bt317.2.2.2.2 bt325.2.2 bt331.2.2 true bt317.1 bt317.2.1 bt325.1 bt325.2.1 bt331.1 bt331.2.1)))))) = some r := h
 clear h
 by_cases c2 : (l0.length : Int) > 1048576
 ·rw [if_pos c2] at H
  have c2b0 : decide (1048576 < (l0.length : Int)) = true := decide_eq_true c2
  have c2b1 : decide (1048576 < l0.length) = true := decide_eq_true (by omega)
  clear c2
  obtain rfl := Option.some.inj H
  go_enter Try.func6, Try.ntmps6
  go_wp2
  go_ret
  exact ⟨ers, hbB⟩
 ·rw [if_neg c2] at H
  have c2b0 : decide (1048576 < (l0.length : Int)) = false := decide_eq_false c2
  have c2b1 : decide (1048576 < l0.length) = false := decide_eq_false (by omega)
  clear c2
  replace H := Option.bind_eq_some_iff.mp H
  obtain ⟨⟨t317, t318, t321, t322, t323⟩, A30, H⟩ := H
  replace H : ((impl_Fixed.f k t317 t318 t321 t322 t323).bind fun bt325 => ((spec_Fixed.f k t317 t318 t321 t322 t323).bind fun bt331 => (if bt325.2.2 = bt331.2.2 then (if (bt325.2.1.length : Int) = (bt331.2.1.length : Int) then (laws_FnFixed.j0 k t321 t322 t323 bt325.2.2 bt331.2.2 (decide (bt325.2.2 < 0)) t317 t318 bt325.1 bt325.2.1 bt331.1 bt331.2.1) else (laws_FnFixed.j0 k t321 t322 t323 bt325.2.2 bt331.2.2 true t317 t318 bt325.1 bt325.2.1 bt331.1 bt331.2.1)) else (laws_FnFixed.j0 k t321 t322 t323 bt325.2.2 bt331.2.2 true t317 t318 bt325.1 bt325.2.1 bt331.1 bt331.2.1)))) = some r := H
  have A3 := Aside0.mk A30
  clear A30
  replace H := Option.bind_eq_some_iff.mp H
  obtain ⟨⟨t325, t326, t329⟩, A40, H⟩ := H
  replace H : ((spec_Fixed.f k t317 t318 t321 t322 t323).bind fun bt331 => (if t329 = bt331.2.2 then (if (t326.length : Int) = (bt331.2.1.length : Int) then (laws_FnFixed.j0 k t321 t322 t323 t329 bt331.2.2 (decide (t329 < 0)) t317 t318 t325 t326 bt331.1 bt331.2.1) else (laws_FnFixed.j0 k t321 t322 t323 t329 bt331.2.2 true t317 t318 t325 t326 bt331.1 bt331.2.1)) else (laws_FnFixed.j0 k t321 t322 t323 t329 bt331.2.2 true t317 t318 t325 t326 bt331.1 bt331.2.1))) = some r := H
  have A4 := Aside0.mk A40
  clear A40
  replace H := Option.bind_eq_some_iff.mp H
  obtain ⟨⟨t331, t332, t335⟩, A50, H⟩ := H
  replace H : (if t329 = t335 then (if (t326.length : Int) = (t332.length : Int) then (laws_FnFixed.j0 k t321 t322 t323 t329 t335 (decide (t329 < 0)) t317 t318 t325 t326 t331 t332) else (laws_FnFixed.j0 k t321 t322 t323 t329 t335 true t317 t318 t325 t326 t331 t332)) else (laws_FnFixed.j0 k t321 t322 t323 t329 t335 true t317 t318 t325 t326 t331 t332)) = some r := H
  have A5 := Aside0.mk A50
  clear A50
  have HC6 := Aside0.mk H
  clear H
  go_enter Try.func6, Try.ntmps6
  go_upto_region 6 with (first | ((with_reducible refine gate_callee (f := 26) rfl ?_); refine goesL_ (some 20) rfl rfl Try.func26 (by kernel_rfl) rfl #[.slice A0 l0.length c0] rfl lmB ?_; (with_reducible refine (spec_DrawFixed.calls k _ _ l0 t317 t318 t321 t322 t323 _ ?side1 ?side2 A3.out).mono ?_); (case side1 => exact kcR HR0.out); (case side2 => exact HC0.out); rintro e w7 ⟨v319, rfl, ho0, hb⟩; refine ⟨_, rfl, ?_⟩; have n0_ := Aside0.mk (Kd.R_lower ho0 (below_size hbB)); have n1_ := Aside0.mk (below_step hbB hb); clear HB; have HO320 := n0_; have HB := n1_; clear n0_ n1_; (try clear hb); (try clear hb2); (try clear hk); (try clear hi); (try clear ho0)) | ((with_reducible refine gate_dst (N := 3) rfl ?_); (try (refine gate_guard (by rfl) ?_; dsimp only)); refine box_event ?hg (N := 3) ?hd (cs := #[.int .i64 0, .slice none 0 0]) (t := 28) ?hr ?_; (case hd => rfl); (case hg => rfl); (case hr => first | (go_simp; done) | (go_simp; rfl)); intro gb324 hg w8 hbox hb; have n0_ := Aside0.mk (Kd.R_below (rvR HO320.out) hb); have n1_ := Aside0.mk (below_step hbB hb); have n2_ := Aside0.mk (hbox); have n3_ := Aside0.mk ((gwb hg (below_size hbB) : w.heap.size ≤ gb324)); have n4_ := n3_; clear HO320; clear HB; have HO320 := n0_; have HB := n1_; have BK324 := n2_; have GW324 := n3_; have GE324 := n4_; clear n0_ n1_ n2_ n3_ n4_; clear hb hbox hg; have hcz9_0 : w8.cell? ⟨gb324, 0, none⟩ = some (.int .i64 0) := (blk_cell BK324.out 0).trans rfl; have hcz9_1 : w8.cell? ⟨gb324, 1, none⟩ = some (.slice none 0 0) := (blk_cell BK324.out 1).trans rfl; have hfz9_0 := blk_frozen BK324.out 0; have hfz9_1 := blk_frozen BK324.out 1; obtain ⟨Ao10, co10, eo10⟩ := Kd.R_slice HO320.out; subst eo10) | ((with_reducible refine gate_callee (f := 25) rfl ?_); refine goesL_ (some 30) rfl rfl Try.func25 (by kernel_rfl) rfl #[.agg #[.int .i64 t317, .slice Ao10 t318.length co10], .int .i64 t321, .int .i64 t322, .int .i64 t323] rfl lmB ?_; (with_reducible refine (impl_Fixed.calls k t317 _ _ t318 t321 t322 t323 t325 t326 t329 _ ?side1 ?side2 A4.out).mono ?_); (case side1 => refine (Kd.R_reads' (e := 92) (base := w.heap.size) (ok := fun k_ => True) (n := t318.length) (c := co10) ?_).2.2; exact (by (with_reducible repeat (first | apply Kd.R_alloc | apply Kd.R_drewN | apply Kd.R_drew)); exact (Kd.R_mono (Kd.R_far (p := ⟨gb324, 1, none⟩) (Kd.R_far (p := ⟨gb324, 0, none⟩) (Kd.R_types HO320.out BK324.out (by decide)) (fun _ hk => hk.2) (.int .i64 t317)) (fun _ hk => hk.2) (.slice Ao10 t318.length co10)) (fun _ h_ => h_.1)))); (case side2 => exact (Kd.R_reads' HO320.out).2.1); rintro e w11 ⟨v327, rfl, ho0, hb⟩; refine ⟨_, rfl, ?_⟩; have n0_ := Aside0.mk (Kd.R_elder' (by (with_reducible repeat (first | apply Kd.R_alloc | apply Kd.R_drewN | apply Kd.R_drew)); exact (Kd.R_mono (Kd.R_far (p := ⟨gb324, 1, none⟩) (Kd.R_far (p := ⟨gb324, 0, none⟩) (Kd.R_types HO320.out BK324.out (by decide)) (fun _ hk => hk.2) (.int .i64 t317)) (fun _ hk => hk.2) (.slice Ao10 t318.length co10)) (fun _ h_ => h_.1))) (Kd.R_base ho0) hb); have n1_ := Aside0.mk (Kd.R_lower (Kd.R_new' ho0 (Kd.R_lt (by (with_reducible repeat (first | apply Kd.R_alloc | apply Kd.R_drewN | apply Kd.R_drew)); exact (Kd.R_mono (Kd.R_far (p := ⟨gb324, 1, none⟩) (Kd.R_far (p := ⟨gb324, 0, none⟩) (Kd.R_types HO320.out BK324.out (by decide)) (fun _ hk => hk.2) (.int .i64 t317)) (fun _ hk => hk.2) (.slice Ao10 t318.length co10)) (fun _ h_ => h_.1))))) (below_size hbC)); have n2_ := Aside0.mk (blk_below (g := gb324) (o := .cells #[.int .i64 t317, .slice Ao10 t318.length co10] 28 (0, 0)) (by (with_reducible repeat (first | refine blk_drewN ?_ _ | refine blk_drew ?_ | refine blk_alloc ?_ _)); refine blk_put (cs := #[.int .i64 t317, .slice none 0 0]) ?_ 1 _ rfl; (with_reducible repeat (first | refine blk_drewN ?_ _ | refine blk_drew ?_ | refine blk_alloc ?_ _)); refine blk_put (cs := #[.int .i64 0, .slice none 0 0]) ?_ 0 _ rfl; (with_reducible repeat (first | refine blk_drewN ?_ _ | refine blk_drew ?_ | refine blk_alloc ?_ _)); exact BK324.out) hb); have n3_ := Aside0.mk (below_step hbC hb); clear HO320; clear BK324; clear HB; have HO320 := n0_; have HO328 := n1_; have BK324 := n2_; have HB := n3_; clear n0_ n1_ n2_ n3_; (try clear hb); (try clear hb2); (try clear hk); (try clear hi); (try clear ho0)) | ((with_reducible refine gate_dst (N := 7) rfl ?_); (try (refine gate_guard (by rfl) ?_; dsimp only)); refine box_event ?hg (N := 7) ?hd (cs := #[.int .i64 0, .slice none 0 0]) (t := 28) ?hr ?_; (case hd => rfl); (case hg => rfl); (case hr => first | (go_simp; done) | (go_simp; rfl)); intro gb330 hg w12 hbox hb; have n0_ := Aside0.mk (Kd.R_below (rvR HO320.out) hb); have n1_ := Aside0.mk (Kd.R_below (rvR HO328.out) hb); have n2_ := Aside0.mk (blk_below (g := gb324) (o := .cells #[.int .i64 t317, .slice Ao10 t318.length co10] 28 (0, 0)) (bvK BK324.out) hb); have n3_ := Aside0.mk (below_step hbC hb); have n4_ := Aside0.mk (hbox); have n5_ := Aside0.mk ((gwb hg (below_size hbC) : w.heap.size ≤ gb330)); have n6_ := n5_; have n7_ := Aside0.mk ((by rw [hg]; exact Nat.ne_of_lt (blk_lt (g := gb324) (o := .cells #[.int .i64 t317, .slice Ao10 t318.length co10] 28 (0, 0)) (bvK BK324.out)) : gb324 ≠ gb330)); have n8_ := Aside0.mk ((by rw [hg]; exact Nat.ne_of_gt (blk_lt (g := gb324) (o := .cells #[.int .i64 t317, .slice Ao10 t318.length co10] 28 (0, 0)) (bvK BK324.out)) : gb330 ≠ gb324)); clear HO320; clear HO328; clear BK324; clear HB; have HO320 := n0_; have HO328 := n1_; have BK324 := n2_; have HB := n3_; have BK330 := n4_; have GW330 := n5_; have GE330 := n6_; have NB324_330 := n7_; have NB330_324 := n8_; clear n0_ n1_ n2_ n3_ n4_ n5_ n6_ n7_ n8_; clear hb hbox hg; have hnb13 := NB330_324.out; have hnc13 := NB324_330.out; have hcz14_0 : w12.cell? ⟨gb330, 0, none⟩ = some (.int .i64 0) := (blk_cell BK330.out 0).trans rfl; have hcz14_1 : w12.cell? ⟨gb330, 1, none⟩ = some (.slice none 0 0) := (blk_cell BK330.out 1).trans rfl; have hfz14_0 := blk_frozen BK330.out 0; have hfz14_1 := blk_frozen BK330.out 1; obtain ⟨Ao15, co15, eo15⟩ := Kd.R_slice HO328.out; subst eo15; have hcz16_0 : w12.cell? ⟨gb324, 0, none⟩ = some (.int .i64 t317) := (blk_cell BK324.out 0).trans rfl; have hcz16_1 : w12.cell? ⟨gb324, 1, none⟩ = some (.slice Ao10 t318.length co10) := (blk_cell BK324.out 1).trans rfl; have hfz16_0 := blk_frozen BK324.out 0; have hfz16_1 := blk_frozen BK324.out 1) | ((with_reducible refine gate_callee (f := 24) rfl ?_); refine goesL_ (some 38) rfl rfl Try.func24 (by kernel_rfl) rfl #[.agg #[.int .i64 t317, .slice Ao10 t318.length co10], .int .i64 t321, .int .i64 t322, .int .i64 t323] rfl lmB ?_; (with_reducible refine (spec_Fixed.calls k t317 _ _ t318 t321 t322 t323 t331 t332 t335 _ ?side1 ?side2 A5.out).mono ?_); (case side1 => refine (Kd.R_reads' (e := 92) (base := w.heap.size) (ok := fun k_ => (True ∧ some k_ ≠ (.slice Ao15 t326.length co15 : Value).ownBlock)) (n := t318.length) (c := co10) ?_).2.2; exact (by (with_reducible repeat (first | apply Kd.R_alloc | apply Kd.R_drewN | apply Kd.R_drew)); exact (Kd.R_mono (Kd.R_far (p := ⟨gb330, 1, none⟩) (Kd.R_far (p := ⟨gb330, 0, none⟩) (Kd.R_types HO320.out BK330.out (by decide)) (fun _ hk => hk.2) (.int .i64 t325)) (fun _ hk => hk.2) (.slice Ao15 t326.length co15)) (fun _ h_ => h_.1)))); (case side2 => exact (Kd.R_reads' HO320.out).2.1); rintro e w17 ⟨v333, rfl, ho0, hb⟩; refine ⟨_, rfl, ?_⟩; have n0_ := Aside0.mk (Kd.R_elder' (by (with_reducible repeat (first | apply Kd.R_alloc | apply Kd.R_drewN | apply Kd.R_drew)); exact (Kd.R_mono (Kd.R_far (p := ⟨gb330, 1, none⟩) (Kd.R_far (p := ⟨gb330, 0, none⟩) (Kd.R_types HO320.out BK330.out (by decide)) (fun _ hk => hk.2) (.int .i64 t325)) (fun _ hk => hk.2) (.slice Ao15 t326.length co15)) (fun _ h_ => h_.1))) (Kd.R_base ho0) hb); have n1_ := Aside0.mk (Kd.R_elder' (by (with_reducible repeat (first | apply Kd.R_alloc | apply Kd.R_drewN | apply Kd.R_drew)); exact (Kd.R_mono (Kd.R_far (p := ⟨gb330, 1, none⟩) (Kd.R_far (p := ⟨gb330, 0, none⟩) (Kd.R_types HO328.out BK330.out (by decide)) (fun _ hk => hk.2) (.int .i64 t325)) (fun _ hk => hk.2) (.slice Ao15 t326.length co15)) (fun _ h_ => h_.1))) (Kd.R_base ho0) hb); have n2_ := Aside0.mk (Kd.R_lower (Kd.R_new' (Kd.R_new' ho0 (Kd.R_lt (by (with_reducible repeat (first | apply Kd.R_alloc | apply Kd.R_drewN | apply Kd.R_drew)); exact (Kd.R_mono (Kd.R_far (p := ⟨gb330, 1, none⟩) (Kd.R_far (p := ⟨gb330, 0, none⟩) (Kd.R_types HO320.out BK330.out (by decide)) (fun _ hk => hk.2) (.int .i64 t325)) (fun _ hk => hk.2) (.slice Ao15 t326.length co15)) (fun _ h_ => h_.1))))) (Kd.R_lt (by (with_reducible repeat (first | apply Kd.R_alloc | apply Kd.R_drewN | apply Kd.R_drew)); exact (Kd.R_mono (Kd.R_far (p := ⟨gb330, 1, none⟩) (Kd.R_far (p := ⟨gb330, 0, none⟩) (Kd.R_types HO328.out BK330.out (by decide)) (fun _ hk => hk.2) (.int .i64 t325)) (fun _ hk => hk.2) (.slice Ao15 t326.length co15)) (fun _ h_ => h_.1))))) (below_size hbC)); have n3_ := Aside0.mk (blk_below (g := gb324) (o := .cells #[.int .i64 t317, .slice Ao10 t318.length co10] 28 (0, 0)) (by (with_reducible repeat (first | refine blk_drewN ?_ _ | refine blk_drew ?_ | refine blk_alloc ?_ _)); refine blk_far ?_ NB324_330.out _; (with_reducible repeat (first | refine blk_drewN ?_ _ | refine blk_drew ?_ | refine blk_alloc ?_ _)); refine blk_far ?_ NB324_330.out _; (with_reducible repeat (first | refine blk_drewN ?_ _ | refine blk_drew ?_ | refine blk_alloc ?_ _)); exact BK324.out) hb); have n4_ := Aside0.mk (blk_below (g := gb330) (o := .cells #[.int .i64 t325, .slice Ao15 t326.length co15] 28 (0, 0)) (by (with_reducible repeat (first | refine blk_drewN ?_ _ | refine blk_drew ?_ | refine blk_alloc ?_ _)); refine blk_put (cs := #[.int .i64 t325, .slice none 0 0]) ?_ 1 _ rfl; (with_reducible repeat (first | refine blk_drewN ?_ _ | refine blk_drew ?_ | refine blk_alloc ?_ _)); refine blk_put (cs := #[.int .i64 0, .slice none 0 0]) ?_ 0 _ rfl; (with_reducible repeat (first | refine blk_drewN ?_ _ | refine blk_drew ?_ | refine blk_alloc ?_ _)); exact BK330.out) hb); have n5_ := Aside0.mk (below_step hbC hb); clear HO320; clear HO328; clear BK324; clear BK330; clear HB; have HO320 := n0_; have HO328 := n1_; have HO334 := n2_; have BK324 := n3_; have BK330 := n4_; have HB := n5_; clear n0_ n1_ n2_ n3_ n4_ n5_; (try clear hb); (try clear hb2); (try clear hk); (try clear hi); (try clear ho0)) | ((with_reducible refine gate_dst (N := 9) rfl ?_); (try (refine gate_guard (by rfl) ?_; dsimp only)); refine box_event ?hg (N := 9) ?hd (cs := #[.int .i64 0, .slice none 0 0]) (t := 28) ?hr ?_; (case hd => rfl); (case hg => rfl); (case hr => first | (go_simp; done) | (go_simp; rfl)); intro gb336 hg w18 hbox hb; have n0_ := Aside0.mk (Kd.R_below (rvR HO320.out) hb); have n1_ := Aside0.mk (Kd.R_below (rvR HO328.out) hb); have n2_ := Aside0.mk (Kd.R_below (rvR HO334.out) hb); have n3_ := Aside0.mk (blk_below (g := gb324) (o := .cells #[.int .i64 t317, .slice Ao10 t318.length co10] 28 (0, 0)) (bvK BK324.out) hb); have n4_ := Aside0.mk (blk_below (g := gb330) (o := .cells #[.int .i64 t325, .slice Ao15 t326.length co15] 28 (0, 0)) (bvK BK330.out) hb); have n5_ := Aside0.mk (below_step hbC hb); have n6_ := Aside0.mk (hbox); have n7_ := Aside0.mk ((gwb hg (below_size hbC) : w.heap.size ≤ gb336)); have n8_ := n7_; have n9_ := Aside0.mk ((by rw [hg]; exact Nat.ne_of_lt (blk_lt (g := gb324) (o := .cells #[.int .i64 t317, .slice Ao10 t318.length co10] 28 (0, 0)) (bvK BK324.out)) : gb324 ≠ gb336)); have n10_ := Aside0.mk ((by rw [hg]; exact Nat.ne_of_gt (blk_lt (g := gb324) (o := .cells #[.int .i64 t317, .slice Ao10 t318.length co10] 28 (0, 0)) (bvK BK324.out)) : gb336 ≠ gb324)); have n11_ := Aside0.mk ((by rw [hg]; exact Nat.ne_of_lt (blk_lt (g := gb330) (o := .cells #[.int .i64 t325, .slice Ao15 t326.length co15] 28 (0, 0)) (bvK BK330.out)) : gb330 ≠ gb336)); have n12_ := Aside0.mk ((by rw [hg]; exact Nat.ne_of_gt (blk_lt (g := gb330) (o := .cells #[.int .i64 t325, .slice Ao15 t326.length co15] 28 (0, 0)) (bvK BK330.out)) : gb336 ≠ gb330)); clear HO320; clear HO328; clear HO334; clear BK324; clear BK330; clear HB; have HO320 := n0_; have HO328 := n1_; have HO334 := n2_; have BK324 := n3_; have BK330 := n4_; have HB := n5_; have BK336 := n6_; have GW336 := n7_; have GE336 := n8_; have NB324_336 := n9_; have NB336_324 := n10_; have NB330_336 := n11_; have NB336_330 := n12_; clear n0_ n1_ n2_ n3_ n4_ n5_ n6_ n7_ n8_ n9_ n10_ n11_ n12_; clear hb hbox hg; have hnb19 := NB336_324.out; have hnc19 := NB324_336.out; have hnb20 := NB336_330.out; have hnc20 := NB330_336.out; have hcz21_0 : w18.cell? ⟨gb336, 0, none⟩ = some (.int .i64 0) := (blk_cell BK336.out 0).trans rfl; have hcz21_1 : w18.cell? ⟨gb336, 1, none⟩ = some (.slice none 0 0) := (blk_cell BK336.out 1).trans rfl; have hfz21_0 := blk_frozen BK336.out 0; have hfz21_1 := blk_frozen BK336.out 1; obtain ⟨Ao22, co22, eo22⟩ := Kd.R_slice HO334.out; subst eo22))
  (try simp only [Act.put, List.setIfInBounds_toArray, List.set_cons_zero, List.set_cons_succ])
  go_cut [56] (fun v56 wc => ∃ (kq : Nat) (x56_5 : Bool), v56 = .bool x56_5 ∧ Aside0 (laws_FnFixed.j0 kq t321 t322 t323 t329 t335 x56_5 t317 t318 t325 t326 t331 t332 = some r) ∧ Aside0 (kq ≤ k) ∧ Aside0 (Kd.R k92 92 wc w.heap.size (fun k_ => some k_ ≠ ((.slice Ao15 t326.length co15) : Value).ownBlock ∧ some k_ ≠ ((.slice Ao22 t332.length co22) : Value).ownBlock) (.slice Ao10 t318.length co10) t318) ∧ Aside0 (Kd.R k92 92 wc w.heap.size (fun k_ => some k_ ≠ ((.slice Ao10 t318.length co10) : Value).ownBlock ∧ some k_ ≠ ((.slice Ao22 t332.length co22) : Value).ownBlock) (.slice Ao15 t326.length co15) t326) ∧ Aside0 (Kd.R k92 92 wc w.heap.size (fun k_ => some k_ ≠ ((.slice Ao10 t318.length co10) : Value).ownBlock ∧ some k_ ≠ ((.slice Ao15 t326.length co15) : Value).ownBlock) (.slice Ao22 t332.length co22) t332) ∧ Aside0 (wc.heap[gb324]? = some (.cells #[.int .i64 t317, (.slice Ao10 t318.length co10)] 28 (0, 0))) ∧ Aside0 (wc.heap[gb330]? = some (.cells #[.int .i64 t325, (.slice Ao15 t326.length co15)] 28 (0, 0))) ∧ Aside0 (wc.heap[gb336]? = some (.cells #[.int .i64 t331, (.slice Ao22 t332.length co22)] 28 (0, 0))) ∧ Aside0 (Below w.heap.size w wc))
  case first =>
   have H := HC6.out
   clear HC6
   by_cases c23 : t329 = t335
   ·rw [if_pos c23] at H
    have c23b0 : (t329 == t335) = true := beq_iff_eq.mpr c23
    have c23b1 : (t329 != t335) = false := bne_eq_false_iff_eq.mpr c23
    clear c23
    (first | rw [c23b0] | (simp only [i64_w, i32_w]; rw [c23b0]) | skip)
    by_cases c24 : (t326.length : Int) = (t332.length : Int)
    ·rw [if_pos c24] at H
     have c24b0 : ((t326.length : Int) == (t332.length : Int)) = true := beq_iff_eq.mpr c24
     have c24b1 : ((t326.length : Int) != (t332.length : Int)) = false := bne_eq_false_iff_eq.mpr c24
     have c24b2 : (t326.length == t332.length) = true := by first | simpa using c24 | (simp at c24 ⊢; omega)
     clear c24
     have H' := Aside0.mk H
     clear H
     have hnb25 := NB330_324.out
     have hnc25 := NB324_330.out
     have hnb26 := NB330_336.out
     have hnc26 := NB336_330.out
     have hcz27_0 : w18.cell? ⟨gb330, 0, none⟩ = some (.int .i64 t325) := (blk_cell BK330.out 0).trans rfl
     have hcz27_1 : w18.cell? ⟨gb330, 1, none⟩ = some (.slice Ao15 t326.length co15) := (blk_cell BK330.out 1).trans rfl
     have hfz27_0 := blk_frozen BK330.out 0
     have hfz27_1 := blk_frozen BK330.out 1
     have hnb28 := NB336_324.out
     have hnc28 := NB324_336.out
     have hcz29_0 : w18.cell? ⟨gb336, 0, none⟩ = some (.int .i64 0) := (blk_cell BK336.out 0).trans rfl
     have hcz29_1 : w18.cell? ⟨gb336, 1, none⟩ = some (.slice none 0 0) := (blk_cell BK336.out 1).trans rfl
     have hfz29_0 := blk_frozen BK336.out 0
     have hfz29_1 := blk_frozen BK336.out 1
     go_wp2
     go_meet
     case rel => exact ⟨_, (decide (t329 < 0)), rsd, H', ⟨by first | omega | exact Nat.le_refl _⟩, ⟨by (with_reducible repeat (first | apply Kd.R_alloc | apply Kd.R_drewN | apply Kd.R_drew)); exact Kd.R_mono (Kd.R_far (p := ⟨gb336, 1, none⟩) (Kd.R_far (p := ⟨gb336, 0, none⟩) (Kd.R_types HO320.out BK336.out (by decide)) (fun _ hk => hk.2) (.int .i64 t331)) (fun _ hk => hk.2) (.slice Ao22 t332.length co22)) (fun _ hk => ⟨hk.1.1.2, hk.1.2⟩)⟩, ⟨by (with_reducible repeat (first | apply Kd.R_alloc | apply Kd.R_drewN | apply Kd.R_drew)); exact Kd.R_mono (Kd.R_far (p := ⟨gb336, 1, none⟩) (Kd.R_far (p := ⟨gb336, 0, none⟩) (Kd.R_types HO328.out BK336.out (by decide)) (fun _ hk => hk.2) (.int .i64 t331)) (fun _ hk => hk.2) (.slice Ao22 t332.length co22)) (fun _ hk => ⟨hk.1.1.2, hk.1.2⟩)⟩, ⟨by (with_reducible repeat (first | apply Kd.R_alloc | apply Kd.R_drewN | apply Kd.R_drew)); exact Kd.R_mono (Kd.R_far (p := ⟨gb336, 1, none⟩) (Kd.R_far (p := ⟨gb336, 0, none⟩) (Kd.R_types HO334.out BK336.out (by decide)) (fun _ hk => hk.2) (.int .i64 t331)) (fun _ hk => hk.2) (.slice Ao22 t332.length co22)) (fun _ hk => ⟨hk.1.1.2, hk.1.2⟩)⟩, ⟨by (with_reducible repeat (first | refine blk_drewN ?_ _ | refine blk_drew ?_ | refine blk_alloc ?_ _)); refine blk_far ?_ NB324_336.out _; (with_reducible repeat (first | refine blk_drewN ?_ _ | refine blk_drew ?_ | refine blk_alloc ?_ _)); refine blk_far ?_ NB324_336.out _; (with_reducible repeat (first | refine blk_drewN ?_ _ | refine blk_drew ?_ | refine blk_alloc ?_ _)); exact BK324.out⟩, ⟨by (with_reducible repeat (first | refine blk_drewN ?_ _ | refine blk_drew ?_ | refine blk_alloc ?_ _)); refine blk_far ?_ NB330_336.out _; (with_reducible repeat (first | refine blk_drewN ?_ _ | refine blk_drew ?_ | refine blk_alloc ?_ _)); refine blk_far ?_ NB330_336.out _; (with_reducible repeat (first | refine blk_drewN ?_ _ | refine blk_drew ?_ | refine blk_alloc ?_ _)); exact BK330.out⟩, ⟨by (with_reducible repeat (first | refine blk_drewN ?_ _ | refine blk_drew ?_ | refine blk_alloc ?_ _)); refine blk_put (cs := #[.int .i64 t331, .slice none 0 0]) ?_ 1 _ rfl; (with_reducible repeat (first | refine blk_drewN ?_ _ | refine blk_drew ?_ | refine blk_alloc ?_ _)); refine blk_put (cs := #[.int .i64 0, .slice none 0 0]) ?_ 0 _ rfl; (with_reducible repeat (first | refine blk_drewN ?_ _ | refine blk_drew ?_ | refine blk_alloc ?_ _)); exact BK336.out⟩, ⟨hbC⟩⟩
    ·rw [if_neg c24] at H
     have c24b0 : ((t326.length : Int) == (t332.length : Int)) = false := beq_eq_false_iff_ne.mpr c24
     have c24b1 : ((t326.length : Int) != (t332.length : Int)) = true := bne_iff_ne.mpr c24
     have c24b2 : (t326.length == t332.length) = false := by first | simpa using c24 | (simp at c24 ⊢; omega)
     have H' := Aside0.mk H
     clear H
     have hnb30 := NB330_324.out
     have hnc30 := NB324_330.out
     have hnb31 := NB330_336.out
     have hnc31 := NB336_330.out
     have hcz32_0 : w18.cell? ⟨gb330, 0, none⟩ = some (.int .i64 t325) := (blk_cell BK330.out 0).trans rfl
     have hcz32_1 : w18.cell? ⟨gb330, 1, none⟩ = some (.slice Ao15 t326.length co15) := (blk_cell BK330.out 1).trans rfl
     have hfz32_0 := blk_frozen BK330.out 0
     have hfz32_1 := blk_frozen BK330.out 1
     have hnb33 := NB336_324.out
     have hnc33 := NB324_336.out
     have hcz34_0 : w18.cell? ⟨gb336, 0, none⟩ = some (.int .i64 0) := (blk_cell BK336.out 0).trans rfl
     have hcz34_1 : w18.cell? ⟨gb336, 1, none⟩ = some (.slice none 0 0) := (blk_cell BK336.out 1).trans rfl
     have hfz34_0 := blk_frozen BK336.out 0
     have hfz34_1 := blk_frozen BK336.out 1
     go_wp2
     go_meet
     case rel => exact ⟨_, (true), rsd, H', ⟨by first | omega | exact Nat.le_refl _⟩, ⟨by (with_reducible repeat (first | apply Kd.R_alloc | apply Kd.R_drewN | apply Kd.R_drew)); exact Kd.R_mono (Kd.R_far (p := ⟨gb336, 1, none⟩) (Kd.R_far (p := ⟨gb336, 0, none⟩) (Kd.R_types HO320.out BK336.out (by decide)) (fun _ hk => hk.2) (.int .i64 t331)) (fun _ hk => hk.2) (.slice Ao22 t332.length co22)) (fun _ hk => ⟨hk.1.1.2, hk.1.2⟩)⟩, ⟨by (with_reducible repeat (first | apply Kd.R_alloc | apply Kd.R_drewN | apply Kd.R_drew)); exact Kd.R_mono (Kd.R_far (p := ⟨gb336, 1, none⟩) (Kd.R_far (p := ⟨gb336, 0, none⟩) (Kd.R_types HO328.out BK336.out (by decide)) (fun _ hk => hk.2) (.int .i64 t331)) (fun _ hk => hk.2) (.slice Ao22 t332.length co22)) (fun _ hk => ⟨hk.1.1.2, hk.1.2⟩)⟩, ⟨by (with_reducible repeat (first | apply Kd.R_alloc | apply Kd.R_drewN | apply Kd.R_drew)); exact Kd.R_mono (Kd.R_far (p := ⟨gb336, 1, none⟩) (Kd.R_far (p := ⟨gb336, 0, none⟩) (Kd.R_types HO334.out BK336.out (by decide)) (fun _ hk => hk.2) (.int .i64 t331)) (fun _ hk => hk.2) (.slice Ao22 t332.length co22)) (fun _ hk => ⟨hk.1.1.2, hk.1.2⟩)⟩, ⟨by (with_reducible repeat (first | refine blk_drewN ?_ _ | refine blk_drew ?_ | refine blk_alloc ?_ _)); refine blk_far ?_ NB324_336.out _; (with_reducible repeat (first | refine blk_drewN ?_ _ | refine blk_drew ?_ | refine blk_alloc ?_ _)); refine blk_far ?_ NB324_336.out _; (with_reducible repeat (first | refine blk_drewN ?_ _ | refine blk_drew ?_ | refine blk_alloc ?_ _)); exact BK324.out⟩, ⟨by (with_reducible repeat (first | refine blk_drewN ?_ _ | refine blk_drew ?_ | refine blk_alloc ?_ _)); refine blk_far ?_ NB330_336.out _; (with_reducible repeat (first | refine blk_drewN ?_ _ | refine blk_drew ?_ | refine blk_alloc ?_ _)); refine blk_far ?_ NB330_336.out _; (with_reducible repeat (first | refine blk_drewN ?_ _ | refine blk_drew ?_ | refine blk_alloc ?_ _)); exact BK330.out⟩, ⟨by (with_reducible repeat (first | refine blk_drewN ?_ _ | refine blk_drew ?_ | refine blk_alloc ?_ _)); refine blk_put (cs := #[.int .i64 t331, .slice none 0 0]) ?_ 1 _ rfl; (with_reducible repeat (first | refine blk_drewN ?_ _ | refine blk_drew ?_ | refine blk_alloc ?_ _)); refine blk_put (cs := #[.int .i64 0, .slice none 0 0]) ?_ 0 _ rfl; (with_reducible repeat (first | refine blk_drewN ?_ _ | refine blk_drew ?_ | refine blk_alloc ?_ _)); exact BK336.out⟩, ⟨hbC⟩⟩
   ·rw [if_neg c23] at H
    have c23b0 : (t329 == t335) = false := beq_eq_false_iff_ne.mpr c23
    have c23b1 : (t329 != t335) = true := bne_iff_ne.mpr c23
    (first | rw [c23b0] | (simp only [i64_w, i32_w]; rw [c23b0]) | skip)
    have H' := Aside0.mk H
    clear H
    go_wp2
    go_meet
    case rel => exact ⟨_, (true), rsd, H', ⟨by first | omega | exact Nat.le_refl _⟩, ⟨by (with_reducible repeat (first | apply Kd.R_alloc | apply Kd.R_drewN | apply Kd.R_drew)); exact Kd.R_mono (Kd.R_far (p := ⟨gb336, 1, none⟩) (Kd.R_far (p := ⟨gb336, 0, none⟩) (Kd.R_types HO320.out BK336.out (by decide)) (fun _ hk => hk.2) (.int .i64 t331)) (fun _ hk => hk.2) (.slice Ao22 t332.length co22)) (fun _ hk => ⟨hk.1.1.2, hk.1.2⟩)⟩, ⟨by (with_reducible repeat (first | apply Kd.R_alloc | apply Kd.R_drewN | apply Kd.R_drew)); exact Kd.R_mono (Kd.R_far (p := ⟨gb336, 1, none⟩) (Kd.R_far (p := ⟨gb336, 0, none⟩) (Kd.R_types HO328.out BK336.out (by decide)) (fun _ hk => hk.2) (.int .i64 t331)) (fun _ hk => hk.2) (.slice Ao22 t332.length co22)) (fun _ hk => ⟨hk.1.1.2, hk.1.2⟩)⟩, ⟨by (with_reducible repeat (first | apply Kd.R_alloc | apply Kd.R_drewN | apply Kd.R_drew)); exact Kd.R_mono (Kd.R_far (p := ⟨gb336, 1, none⟩) (Kd.R_far (p := ⟨gb336, 0, none⟩) (Kd.R_types HO334.out BK336.out (by decide)) (fun _ hk => hk.2) (.int .i64 t331)) (fun _ hk => hk.2) (.slice Ao22 t332.length co22)) (fun _ hk => ⟨hk.1.1.2, hk.1.2⟩)⟩, ⟨by (with_reducible repeat (first | refine blk_drewN ?_ _ | refine blk_drew ?_ | refine blk_alloc ?_ _)); refine blk_far ?_ NB324_336.out _; (with_reducible repeat (first | refine blk_drewN ?_ _ | refine blk_drew ?_ | refine blk_alloc ?_ _)); refine blk_far ?_ NB324_336.out _; (with_reducible repeat (first | refine blk_drewN ?_ _ | refine blk_drew ?_ | refine blk_alloc ?_ _)); exact BK324.out⟩, ⟨by (with_reducible repeat (first | refine blk_drewN ?_ _ | refine blk_drew ?_ | refine blk_alloc ?_ _)); refine blk_far ?_ NB330_336.out _; (with_reducible repeat (first | refine blk_drewN ?_ _ | refine blk_drew ?_ | refine blk_alloc ?_ _)); refine blk_far ?_ NB330_336.out _; (with_reducible repeat (first | refine blk_drewN ?_ _ | refine blk_drew ?_ | refine blk_alloc ?_ _)); exact BK330.out⟩, ⟨by (with_reducible repeat (first | refine blk_drewN ?_ _ | refine blk_drew ?_ | refine blk_alloc ?_ _)); refine blk_put (cs := #[.int .i64 t331, .slice none 0 0]) ?_ 1 _ rfl; (with_reducible repeat (first | refine blk_drewN ?_ _ | refine blk_drew ?_ | refine blk_alloc ?_ _)); refine blk_put (cs := #[.int .i64 0, .slice none 0 0]) ?_ 0 _ rfl; (with_reducible repeat (first | refine blk_drewN ?_ _ | refine blk_drew ?_ | refine blk_alloc ?_ _)); exact BK336.out⟩, ⟨hbC⟩⟩
  case rest =>
   clear HC6
   try clear c1
   try clear c2
   try clear c2b0
   try clear c2b1
   try clear p2
   try clear c3
   try clear c6
   try clear c13
   try clear c19
   try clear c20
   try clear c23
   try clear c23b0
   try clear c23b1
   try clear c24
   try clear c24b0
   try clear c24b1
   try clear c24b2
   try clear c25
   try clear c26
   try clear c28
   try clear c30
   try clear c31
   try clear c33
   try clear hcz14_0
   try clear hcz14_1
   try clear hcz16_0
   try clear hcz16_1
   try clear hcz21_0
   try clear hcz21_1
   try clear hcz27_0
   try clear hcz27_1
   try clear hcz29_0
   try clear hcz29_1
   try clear hcz32_0
   try clear hcz32_1
   try clear hcz34_0
   try clear hcz34_1
   try clear hcz9_0
   try clear hcz9_1
   try clear hfz14_0
   try clear hfz14_1
   try clear hfz16_0
   try clear hfz16_1
   try clear hfz21_0
   try clear hfz21_1
   try clear hfz27_0
   try clear hfz27_1
   try clear hfz29_0
   try clear hfz29_1
   try clear hfz32_0
   try clear hfz32_1
   try clear hfz34_0
   try clear hfz34_1
   try clear hfz9_0
   try clear hfz9_1
   obtain ⟨kq, x56_5, rfl, HA, HJ5, HO_325001, HO_331001, HO_337001, BK324, BK330, BK336, HB⟩ := hcut
   cases kq with
   | zero => exact absurd HA.out (by simp [laws_FnFixed.j0])
   | succ kj5 =>
    have H := HA.out
    clear HA
    simp only [laws_FnFixed.j0] at H
    by_cases c35 : x56_5 = true
    ·subst c35
     have H1 : (if t329 = t335 then (if (t326.length : Int) = (t332.length : Int) then (some (t329 == (-1))) else (some false)) else (some false)) = some r := by rw [if_pos rfl] at H; exact H
     clear H
     have H := H1
     clear H1
     by_cases c36 : t329 = t335
     ·rw [if_pos c36] at H
      have c36b0 : (t329 == t335) = true := beq_iff_eq.mpr c36
      have c36b1 : (t329 != t335) = false := bne_eq_false_iff_eq.mpr c36
      clear c36
      by_cases c37 : (t326.length : Int) = (t332.length : Int)
      ·rw [if_pos c37] at H
       have c37b0 : ((t326.length : Int) == (t332.length : Int)) = true := beq_iff_eq.mpr c37
       have c37b1 : ((t326.length : Int) != (t332.length : Int)) = false := bne_eq_false_iff_eq.mpr c37
       have c37b2 : (t326.length == t332.length) = true := by first | simpa using c37 | (simp at c37 ⊢; omega)
       clear c37
       obtain rfl := Option.some.inj H
       have hnb38 := NB330_324.out
       have hnc38 := NB324_330.out
       have hnb39 := NB330_336.out
       have hnc39 := NB336_330.out
       have hcz40_0 : wc.cell? ⟨gb330, 0, none⟩ = some (.int .i64 t325) := (blk_cell BK330.out 0).trans rfl
       have hcz40_1 : wc.cell? ⟨gb330, 1, none⟩ = some (.slice Ao15 t326.length co15) := (blk_cell BK330.out 1).trans rfl
       have hfz40_0 := blk_frozen BK330.out 0
       have hfz40_1 := blk_frozen BK330.out 1
       have hnb41 := NB336_324.out
       have hnc41 := NB324_336.out
       have hcz42_0 : wc.cell? ⟨gb336, 0, none⟩ = some (.int .i64 t331) := (blk_cell BK336.out 0).trans rfl
       have hcz42_1 : wc.cell? ⟨gb336, 1, none⟩ = some (.slice Ao22 t332.length co22) := (blk_cell BK336.out 1).trans rfl
       have hfz42_0 := blk_frozen BK336.out 0
       have hfz42_1 := blk_frozen BK336.out 1
       go_wp2
       go_ret
       exact ⟨ers, hbC⟩
      ·rw [if_neg c37] at H
       have c37b0 : ((t326.length : Int) == (t332.length : Int)) = false := beq_eq_false_iff_ne.mpr c37
       have c37b1 : ((t326.length : Int) != (t332.length : Int)) = true := bne_iff_ne.mpr c37
       have c37b2 : (t326.length == t332.length) = false := by first | simpa using c37 | (simp at c37 ⊢; omega)
       obtain rfl := Option.some.inj H
       have hnb43 := NB330_324.out
       have hnc43 := NB324_330.out
       have hnb44 := NB330_336.out
       have hnc44 := NB336_330.out
       have hcz45_0 : wc.cell? ⟨gb330, 0, none⟩ = some (.int .i64 t325) := (blk_cell BK330.out 0).trans rfl
       have hcz45_1 : wc.cell? ⟨gb330, 1, none⟩ = some (.slice Ao15 t326.length co15) := (blk_cell BK330.out 1).trans rfl
       have hfz45_0 := blk_frozen BK330.out 0
       have hfz45_1 := blk_frozen BK330.out 1
       have hnb46 := NB336_324.out
       have hnc46 := NB324_336.out
       have hcz47_0 : wc.cell? ⟨gb336, 0, none⟩ = some (.int .i64 t331) := (blk_cell BK336.out 0).trans rfl
       have hcz47_1 : wc.cell? ⟨gb336, 1, none⟩ = some (.slice Ao22 t332.length co22) := (blk_cell BK336.out 1).trans rfl
       have hfz47_0 := blk_frozen BK336.out 0
       have hfz47_1 := blk_frozen BK336.out 1
       go_wp2
       go_ret
       exact ⟨ers, hbC⟩
     ·rw [if_neg c36] at H
      have c36b0 : (t329 == t335) = false := beq_eq_false_iff_ne.mpr c36
      have c36b1 : (t329 != t335) = true := bne_iff_ne.mpr c36
      obtain rfl := Option.some.inj H
      go_wp2
      go_ret
      exact ⟨ers, hbC⟩
    ·replace c35 := Bool.eq_false_iff.mpr c35
     subst c35
     have H1 : (laws_FnFixed.l0 kj5 t321 t322 t323 t329 0 t317 t318 t325 t326) = some r := by rw [if_neg (show ¬ (false = true) by decide)] at H; exact H
     clear H
     have H := H1
     clear H1
     have H' := Aside0.mk H
     clear H
     go_wp2
     go_loopg [73] kj5 (fun kq v73 w' => ∃ (x73_2 : Int), v73 = .int .i64 x73_2 ∧ Aside0 (laws_FnFixed.l0 kq t321 t322 t323 t329 x73_2 t317 t318 t325 t326 = some r) ∧ Aside0 (kq ≤ kj5) ∧ Aside0 (Kd.R k92 92 w' w.heap.size (fun k_ => some k_ ≠ ((.slice Ao15 t326.length co15) : Value).ownBlock ∧ some k_ ≠ ((.slice Ao22 t332.length co22) : Value).ownBlock) (.slice Ao10 t318.length co10) t318) ∧ Aside0 (Kd.R k92 92 w' w.heap.size (fun k_ => some k_ ≠ ((.slice Ao10 t318.length co10) : Value).ownBlock ∧ some k_ ≠ ((.slice Ao22 t332.length co22) : Value).ownBlock) (.slice Ao15 t326.length co15) t326) ∧ Aside0 (Kd.R k92 92 w' w.heap.size (fun k_ => some k_ ≠ ((.slice Ao10 t318.length co10) : Value).ownBlock ∧ some k_ ≠ ((.slice Ao15 t326.length co15) : Value).ownBlock) (.slice Ao22 t332.length co22) t332) ∧ Aside0 (w'.heap[gb324]? = some (.cells #[.int .i64 t317, (.slice Ao10 t318.length co10)] 28 (0, 0))) ∧ Aside0 (w'.heap[gb330]? = some (.cells #[.int .i64 t325, (.slice Ao15 t326.length co15)] 28 (0, 0))) ∧ Aside0 (w'.heap[gb336]? = some (.cells #[.int .i64 t331, (.slice Ao22 t332.length co22)] 28 (0, 0))) ∧ Aside0 (Below w.heap.size w w'))
     case atStart => exact ⟨(0), rsd, H', ⟨Nat.le_refl _⟩, ⟨rvR HO_325001.out⟩, ⟨rvR HO_331001.out⟩, ⟨rvR HO_337001.out⟩, ⟨bvK BK324.out⟩, ⟨bvK BK330.out⟩, ⟨bvK BK336.out⟩, ⟨hbC⟩⟩
     case round =>
      clear H'
      try clear c1
      try clear c2
      try clear c2b0
      try clear c2b1
      try clear p2
      try clear c3
      try clear c4
      try clear c6
      try clear c13
      try clear c19
      try clear c20
      try clear c23
      try clear c23b0
      try clear c23b1
      try clear c24
      try clear c24b0
      try clear c24b1
      try clear c24b2
      try clear c25
      try clear c26
      try clear c28
      try clear c30
      try clear c31
      try clear c33
      try clear c35
      try clear c36
      try clear c36b0
      try clear c36b1
      try clear c37
      try clear c37b0
      try clear c37b1
      try clear c37b2
      try clear c38
      try clear c39
      try clear c41
      try clear c43
      try clear c44
      try clear c46
      try clear hcz14_0
      try clear hcz14_1
      try clear hcz16_0
      try clear hcz16_1
      try clear hcz21_0
      try clear hcz21_1
      try clear hcz27_0
      try clear hcz27_1
      try clear hcz29_0
      try clear hcz29_1
      try clear hcz32_0
      try clear hcz32_1
      try clear hcz34_0
      try clear hcz34_1
      try clear hcz40_0
      try clear hcz40_1
      try clear hcz42_0
      try clear hcz42_1
      try clear hcz45_0
      try clear hcz45_1
      try clear hcz47_0
      try clear hcz47_1
      try clear hcz9_0
      try clear hcz9_1
      try clear hfz14_0
      try clear hfz14_1
      try clear hfz16_0
      try clear hfz16_1
      try clear hfz21_0
      try clear hfz21_1
      try clear hfz27_0
      try clear hfz27_1
      try clear hfz29_0
      try clear hfz29_1
      try clear hfz32_0
      try clear hfz32_1
      try clear hfz34_0
      try clear hfz34_1
      try clear hfz40_0
      try clear hfz40_1
      try clear hfz42_0
      try clear hfz42_1
      try clear hfz45_0
      try clear hfz45_1
      try clear hfz47_0
      try clear hfz47_1
      try clear hfz9_0
      try clear hfz9_1
      try clear p2
      obtain ⟨x73_2, rfl, HA, HK2, HO_325001, HO_331001, HO_337001, BK324, BK330, BK336, HB⟩ := hrel
      cases gk with
      | zero => exact absurd HA.out (by simp [laws_FnFixed.l0])
      | succ k2 =>
       have H := HA.out
       clear HA
       simp only [laws_FnFixed.l0] at H
       by_cases c48 : x73_2 < 8
       ·rw [if_pos c48] at H
        have c48b0 : decide (x73_2 < 8) = true := decide_eq_true c48
        clear c48
        obtain ⟨y341, hy341⟩ : ∃ y_ : List Int, y_ = (([] : List Int)) := ⟨_, rfl⟩
        replace H : (laws_FnFixed.l1 k2 t321 t322 t323 t329 x73_2 y341 x73_2 t317 0 t317 t318 t325 t326) = some r := by first | (rw [hy341]; with_reducible exact H) | (have H2_ := (Option.bind_some _ _).symm.trans H; rw [hy341]; with_reducible exact H2_) | (have H2_ := (Option.bind_some _ _).symm.trans H; with_reducible exact H2_) | with_reducible exact H | (rw [hy341]; exact H) | exact H
        have Ny341 := Aside0.mk hy341
        clear hy341
        have H' := Aside0.mk H
        clear H
        go_wp2_with (first | ((with_reducible refine gate_dst (N := 76) rfl ?_); (try (refine gate_guard (by rfl) ?_; dsimp only)); refine Kd.R_lit (Kd.int .i64) _ 3 ?hg (N := 76) ?hd (xs := ([] : List Int)) (inner := []) (ok := fun _ => True) (okp := fun _ => True) ?hr ?hp (fun _ hk => hk) trivial (Below.refl _ _) (Nat.le_refl _) (by simp) ?_; (case hd => rfl); (case hg => rfl); (case hr => first | (go_simp; done) | (go_simp; rfl)); (case hp => exact (Reps.none _ _)); intro v342 w49 ho50 hb hg_ hnew_; clear hg_ hnew_; (first | rw [← Ny341.out] at ho50 | (simp only [Int.reduceToNat] at ho50; rw [← Ny341.out] at ho50)); have n0_ := Aside0.mk (Kd.R_below (rvR HO_325001.out) hb); have n1_ := Aside0.mk (Kd.R_below (rvR HO_331001.out) hb); have n2_ := Aside0.mk (Kd.R_below (rvR HO_337001.out) hb); have n3_ := Aside0.mk (Kd.R_lower ho50 (below_size hbC)); have n4_ := Aside0.mk (blk_below (g := gb324) (o := .cells #[.int .i64 t317, .slice Ao10 t318.length co10] 28 (0, 0)) (bvK BK324.out) hb); have n5_ := Aside0.mk (blk_below (g := gb330) (o := .cells #[.int .i64 t325, .slice Ao15 t326.length co15] 28 (0, 0)) (bvK BK330.out) hb); have n6_ := Aside0.mk (blk_below (g := gb336) (o := .cells #[.int .i64 t331, .slice Ao22 t332.length co22] 28 (0, 0)) (bvK BK336.out) hb); have n7_ := Aside0.mk (below_step hbC hb); clear HO_325001; clear HO_331001; clear HO_337001; clear BK324; clear BK330; clear BK336; clear HB; have HO_325001 := n0_; have HO_331001 := n1_; have HO_337001 := n2_; have HO343 := n3_; have BK324 := n4_; have BK330 := n5_; have BK336 := n6_; have HB := n7_; clear n0_ n1_ n2_ n3_ n4_ n5_ n6_ n7_; clear hb ho50; have hnb51 := NB324_330.out; have hnc51 := NB330_324.out; have hnb52 := NB324_336.out; have hnc52 := NB336_324.out; have hcz53_0 : w49.cell? ⟨gb324, 0, none⟩ = some (.int .i64 t317) := (blk_cell BK324.out 0).trans rfl; have hcz53_1 : w49.cell? ⟨gb324, 1, none⟩ = some (.slice Ao10 t318.length co10) := (blk_cell BK324.out 1).trans rfl; have hfz53_0 := blk_frozen BK324.out 0; have hfz53_1 := blk_frozen BK324.out 1))
        go_loopg [12, 79] k2 (fun kq v12 v79 w' => ∃ (x12_3 : List Int) (x79_3 : Int), v79 = .int .i64 x79_3 ∧ Aside0 (laws_FnFixed.l1 kq t321 t322 t323 t329 x73_2 x12_3 x73_2 t317 x79_3 t317 t318 t325 t326 = some r) ∧ Aside0 (kq ≤ k2) ∧ Aside0 (Kd.R (Kd.int .i64) 3 w' w.heap.size (fun _ => True) v12 x12_3) ∧ Aside0 (Kd.R k92 92 w' w.heap.size (fun k_ => some k_ ≠ ((.slice Ao15 t326.length co15) : Value).ownBlock ∧ some k_ ≠ ((.slice Ao22 t332.length co22) : Value).ownBlock) (.slice Ao10 t318.length co10) t318) ∧ Aside0 (Kd.R k92 92 w' w.heap.size (fun k_ => some k_ ≠ ((.slice Ao10 t318.length co10) : Value).ownBlock ∧ some k_ ≠ ((.slice Ao22 t332.length co22) : Value).ownBlock) (.slice Ao15 t326.length co15) t326) ∧ Aside0 (Kd.R k92 92 w' w.heap.size (fun k_ => some k_ ≠ ((.slice Ao10 t318.length co10) : Value).ownBlock ∧ some k_ ≠ ((.slice Ao15 t326.length co15) : Value).ownBlock) (.slice Ao22 t332.length co22) t332) ∧ Aside0 (w'.heap[gb324]? = some (.cells #[.int .i64 t317, (.slice Ao10 t318.length co10)] 28 (0, 0))) ∧ Aside0 (w'.heap[gb330]? = some (.cells #[.int .i64 t325, (.slice Ao15 t326.length co15)] 28 (0, 0))) ∧ Aside0 (w'.heap[gb336]? = some (.cells #[.int .i64 t331, (.slice Ao22 t332.length co22)] 28 (0, 0))) ∧ Aside0 (Below w.heap.size w w'))
        case atStart => exact ⟨(y341), (0), rsd, H', ⟨Nat.le_refl _⟩, ⟨rvR HO343.out⟩, ⟨rvR HO_325001.out⟩, ⟨rvR HO_331001.out⟩, ⟨rvR HO_337001.out⟩, ⟨bvK BK324.out⟩, ⟨bvK BK330.out⟩, ⟨bvK BK336.out⟩, ⟨hbC⟩⟩
        case round =>
         clear H'
         try clear c1
         try clear c2
         try clear c2b0
         try clear c2b1
         try clear p2
         try clear c3
         try clear c4
         try clear c5
         try clear c6
         try clear c13
         try clear c19
         try clear c20
         try clear c23
         try clear c23b0
         try clear c23b1
         try clear c24
         try clear c24b0
         try clear c24b1
         try clear c24b2
         try clear c25
         try clear c26
         try clear c28
         try clear c30
         try clear c31
         try clear c33
         try clear c35
         try clear c36
         try clear c36b0
         try clear c36b1
         try clear c37
         try clear c37b0
         try clear c37b1
         try clear c37b2
         try clear c38
         try clear c39
         try clear c41
         try clear c43
         try clear c44
         try clear c46
         try clear c48
         try clear c48b0
         try clear c51
         try clear c52
         try clear hcz14_0
         try clear hcz14_1
         try clear hcz16_0
         try clear hcz16_1
         try clear hcz21_0
         try clear hcz21_1
         try clear hcz27_0
         try clear hcz27_1
         try clear hcz29_0
         try clear hcz29_1
         try clear hcz32_0
         try clear hcz32_1
         try clear hcz34_0
         try clear hcz34_1
         try clear hcz40_0
         try clear hcz40_1
         try clear hcz42_0
         try clear hcz42_1
         try clear hcz45_0
         try clear hcz45_1
         try clear hcz47_0
         try clear hcz47_1
         try clear hcz53_0
         try clear hcz53_1
         try clear hcz9_0
         try clear hcz9_1
         try clear hfz14_0
         try clear hfz14_1
         try clear hfz16_0
         try clear hfz16_1
         try clear hfz21_0
         try clear hfz21_1
         try clear hfz27_0
         try clear hfz27_1
         try clear hfz29_0
         try clear hfz29_1
         try clear hfz32_0
         try clear hfz32_1
         try clear hfz34_0
         try clear hfz34_1
         try clear hfz40_0
         try clear hfz40_1
         try clear hfz42_0
         try clear hfz42_1
         try clear hfz45_0
         try clear hfz45_1
         try clear hfz47_0
         try clear hfz47_1
         try clear hfz53_0
         try clear hfz53_1
         try clear hfz9_0
         try clear hfz9_1
         try clear p2
         obtain ⟨x12_3, x79_3, rfl, HA, HK3, HO_12, HO_325001, HO_331001, HO_337001, BK324, BK330, BK336, HB⟩ := hrel
         cases gk with
         | zero => exact absurd HA.out (by simp [laws_FnFixed.l1])
         | succ k3 =>
          have H := HA.out
          clear HA
          simp only [laws_FnFixed.l1] at H
          by_cases c54 : x79_3 < t317
          ·rw [if_pos c54] at H
           have c54b0 : decide (x79_3 < t317) = true := decide_eq_true c54
           clear c54
           obtain ⟨ji55, hji55⟩ : ∃ j_ : Int, (Int.tmod x79_3 3) = j_ := ⟨_, rfl⟩
           replace H : (if 0 ≤ (ji55) then (if x12_3.length < 17592186044416 then (laws_FnFixed.l1 k3 t321 t322 t323 t329 x73_2 (x12_3 ++ [Int.tmod (shr .i64 x73_2 (ji55)) 2]) x73_2 t317 (wrap64 (x79_3 + 1)) t317 t318 t325 t326) else (none)) else (none)) = some r := by first | (rw [hji55] at H; exact H) | (simp only [hji55] at H ⊢; exact H)
           by_cases c56 : 0 ≤ (ji55)
           ·rw [if_pos c56] at H
            have c56b0 := eq_true c56
            have c56b1 : decide (0 ≤ (ji55)) = true := decide_eq_true c56
            clear c56
            obtain ⟨ji57, hji57⟩ : ∃ j_ : Int, (shr .i64 x73_2 (ji55)) = j_ := ⟨_, rfl⟩
            replace H : (if x12_3.length < 17592186044416 then (laws_FnFixed.l1 k3 t321 t322 t323 t329 x73_2 (x12_3 ++ [Int.tmod (ji57) 2]) x73_2 t317 (wrap64 (x79_3 + 1)) t317 t318 t325 t326) else (none)) = some r := by first | (rw [hji57] at H; exact H) | (simp only [hji57] at H ⊢; exact H)
            have hji57_ : (x73_2 / 2 ^ min (ji55).toNat 64) = ji57 := hji57
            have hji57z : (ji55) ≤ 64 → (x73_2 / 2 ^ (ji55).toNat) = ji57 := shr_small hji57
            by_cases c58 : x12_3.length < 17592186044416
            ·rw [if_pos c58] at H
             have LMc58 := Aside0.mk c58
             clear c58
             obtain ⟨y344, hy344⟩ : ∃ y_ : List Int, y_ = (x12_3 ++ [Int.tmod (ji57) 2]) := ⟨_, rfl⟩
             replace H : (laws_FnFixed.l1 k3 t321 t322 t323 t329 x73_2 y344 x73_2 t317 (wrap64 (x79_3 + 1)) t317 t318 t325 t326) = some r := by first | (rw [hy344]; with_reducible exact H) | (have H2_ := (Option.bind_some _ _).symm.trans H; rw [hy344]; with_reducible exact H2_) | (have H2_ := (Option.bind_some _ _).symm.trans H; with_reducible exact H2_) | with_reducible exact H | (rw [hy344]; exact H) | exact H
             have Ny344 := Aside0.mk hy344
             clear hy344
             have H' := Aside0.mk H
             clear H
             go_wp2_with (first | ((with_reducible refine gate_builtin (b := .append) (xs := #[.tmp 82, .tmp 88]) rfl ?_); (try (refine gate_guard (by rfl) ?_; dsimp only)); at_builtin; refine Kd.R_append (Kd.int .i64) (w0 := w) w.heap.size rfl (.tmp 82) (.tmp 88) 38 3 (.int .i64 0) 8 rfl Try.underlying38 info3 rfl (by decide) (by omega) u12 x12_3 (Int.tmod (ji57) 2) [.int .i64 (Int.tmod (ji57) 2)] (fun _ => True) (fun _ => False) rfl rfl ?aP (fun _ hk => hk.elim) ?aF ?aO ?aB ?aS ?aL ?_; (case aP => exact rfl); (case aB => exact hbC); (case aF => exact (fun _ _ => trivial)); (case aO => exact (rvR HO_12.out)); (case aS => exact (below_size hbC)); (case aL => have := LMc58.out; omega); intro v345 w59 ho hb hg hat; rw [← Ny344.out] at ho; have n0_ := Aside0.mk (Kd.R_over' (rvR HO_325001.out) (Kd.R_typed (rvR HO_12.out)) (by decide) hg); have n1_ := Aside0.mk (Kd.R_over' (rvR HO_331001.out) (Kd.R_typed (rvR HO_12.out)) (by decide) hg); have n2_ := Aside0.mk (Kd.R_over' (rvR HO_337001.out) (Kd.R_typed (rvR HO_12.out)) (by decide) hg); have n3_ := Aside0.mk (blk_grown (g := gb324) (o := .cells #[.int .i64 t317, .slice Ao10 t318.length co10] 28 (0, 0)) (bvK BK324.out) hg (Kd.R_ne HO_12.out BK324.out (by decide))); have n4_ := Aside0.mk (blk_grown (g := gb330) (o := .cells #[.int .i64 t325, .slice Ao15 t326.length co15] 28 (0, 0)) (bvK BK330.out) hg (Kd.R_ne HO_12.out BK330.out (by decide))); have n5_ := Aside0.mk (blk_grown (g := gb336) (o := .cells #[.int .i64 t331, .slice Ao22 t332.length co22] 28 (0, 0)) (bvK BK336.out) hg (Kd.R_ne HO_12.out BK336.out (by decide))); have n6_ := Aside0.mk (hb); have n7_ := Aside0.mk (ho); clear HO_325001; clear HO_331001; clear HO_337001; clear BK324; clear BK330; clear BK336; clear HB; clear HO_12; have HO_325001 := n0_; have HO_331001 := n1_; have HO_337001 := n2_; have BK324 := n3_; have BK330 := n4_; have BK336 := n5_; have HB := n6_; have HO346 := n7_; clear n0_ n1_ n2_ n3_ n4_ n5_ n6_ n7_; clear ho hb hg hat))
             go_roundg k3
             case measure => have := HJ5.out; have := HK2.out; have := HK3.out; omega
             case rel => exact ⟨(y344), (wrap64 (x79_3 + 1)), rsd, H', ⟨by have := HJ5.out; have := HK2.out; have := HK3.out; omega⟩, ⟨rvR HO346.out⟩, ⟨rvR HO_325001.out⟩, ⟨rvR HO_331001.out⟩, ⟨rvR HO_337001.out⟩, ⟨bvK BK324.out⟩, ⟨bvK BK330.out⟩, ⟨bvK BK336.out⟩, ⟨hbC⟩⟩
            ·rw [if_neg c58] at H
             exact absurd H (by simp)
           ·rw [if_neg c56] at H
            exact absurd H (by simp)
          ·rw [if_neg c54] at H
           have c54b0 : decide (x79_3 < t317) = false := decide_eq_false c54
           clear c54
           replace H := Option.bind_eq_some_iff.mp H
           obtain ⟨t347, A600, H⟩ := H
           replace H : (if 0 ≤ t322 then (if t322 < (x12_3.length : Int) then ((impl_EdgeValue.f k3 t317 t318 (x12_3.set (t322 : Int).toNat t323) t321).bind fun t349 => (if t349 = t347 then (laws_FnFixed.l0 k3 t321 t322 t323 t329 (wrap64 (x73_2 + 1)) t317 t318 t325 t326) else (some false))) else (none)) else (none)) = some r := H
           have A60 := Aside0.mk A600
           clear A600
           by_cases c61 : 0 ≤ t322
           ·rw [if_pos c61] at H
            have c61b0 : decide (0 ≤ t322) = true := decide_eq_true c61
            clear c61
            by_cases c62 : t322 < (x12_3.length : Int)
            ·rw [if_pos c62] at H
             have c62b0 : decide (t322 < (x12_3.length : Int)) = true := decide_eq_true c62
             clear c62
             obtain ⟨y348, hy348⟩ : ∃ y_ : List Int, y_ = (x12_3.set (t322 : Int).toNat t323) := ⟨_, rfl⟩
             replace H : ((impl_EdgeValue.f k3 t317 t318 y348 t321).bind fun t349 => (if t349 = t347 then (laws_FnFixed.l0 k3 t321 t322 t323 t329 (wrap64 (x73_2 + 1)) t317 t318 t325 t326) else (some false))) = some r := by first | (rw [hy348]; with_reducible exact H) | (have H2_ := (Option.bind_some _ _).symm.trans H; rw [hy348]; with_reducible exact H2_) | (have H2_ := (Option.bind_some _ _).symm.trans H; with_reducible exact H2_) | with_reducible exact H | (rw [hy348]; exact H) | exact H
             have Ny348 := Aside0.mk hy348
             clear hy348
             replace H := Option.bind_eq_some_iff.mp H
             obtain ⟨t349, A640, H⟩ := H
             replace H : (if t349 = t347 then (laws_FnFixed.l0 k3 t321 t322 t323 t329 (wrap64 (x73_2 + 1)) t317 t318 t325 t326) else (some false)) = some r := H
             have A64 := Aside0.mk A640
             clear A640
             by_cases c65 : t349 = t347
             ·rw [if_pos c65] at H
              have c65b0 : (t349 == t347) = true := beq_iff_eq.mpr c65
              have c65b1 : (t349 != t347) = false := bne_eq_false_iff_eq.mpr c65
              clear c65
              have H' := Aside0.mk H
              clear H
              have hnb66 := NB330_324.out
              have hnc66 := NB324_330.out
              have hnb67 := NB330_336.out
              have hnc67 := NB336_330.out
              have hcz68_0 : wr.cell? ⟨gb330, 0, none⟩ = some (.int .i64 t325) := (blk_cell BK330.out 0).trans rfl
              have hcz68_1 : wr.cell? ⟨gb330, 1, none⟩ = some (.slice Ao15 t326.length co15) := (blk_cell BK330.out 1).trans rfl
              have hfz68_0 := blk_frozen BK330.out 0
              have hfz68_1 := blk_frozen BK330.out 1
              obtain ⟨Ao69, co69, eo69⟩ := Kd.R_slice HO_12.out
              subst eo69
              go_wp2_with (first | ((with_reducible refine gate_callee (f := 22) rfl ?_); refine goesL_ (some 94) rfl rfl Try.func22 (by kernel_rfl) rfl #[.agg #[.int .i64 t325, .slice Ao15 t326.length co15], .slice Ao69 x12_3.length co69, .int .i64 t329] rfl lmB ?_; (with_reducible refine (impl_EdgeValue.calls k3 t325 _ _ t326 _ _ x12_3 t329 t347 _ ?side1 ?side2 ?side3 ?side4 A60.out).mono ?_); (case side1 => exact kcR (Kd.R_reads' HO_331001.out).2.2); (case side2 => exact (Kd.R_reads' HO_331001.out).2.1); (case side3 => exact kcR (Kd.R_reads' HO_12.out).2.2); (case side4 => exact (Kd.R_reads' HO_12.out).2.1); rintro e w70 ⟨rfl, hb⟩; refine ⟨_, rfl, ?_⟩; have n0_ := Aside0.mk (Kd.R_below (rvR HO_12.out) hb); have n1_ := Aside0.mk (Kd.R_below (rvR HO_325001.out) hb); have n2_ := Aside0.mk (Kd.R_below (rvR HO_331001.out) hb); have n3_ := Aside0.mk (Kd.R_below (rvR HO_337001.out) hb); have n4_ := Aside0.mk (blk_below (g := gb324) (o := .cells #[.int .i64 t317, .slice Ao10 t318.length co10] 28 (0, 0)) (bvK BK324.out) hb); have n5_ := Aside0.mk (blk_below (g := gb330) (o := .cells #[.int .i64 t325, .slice Ao15 t326.length co15] 28 (0, 0)) (bvK BK330.out) hb); have n6_ := Aside0.mk (blk_below (g := gb336) (o := .cells #[.int .i64 t331, .slice Ao22 t332.length co22] 28 (0, 0)) (bvK BK336.out) hb); have n7_ := Aside0.mk (below_step hbC hb); clear HO_12; clear HO_325001; clear HO_331001; clear HO_337001; clear BK324; clear BK330; clear BK336; clear HB; have HO_12 := n0_; have HO_325001 := n1_; have HO_331001 := n2_; have HO_337001 := n3_; have BK324 := n4_; have BK330 := n5_; have BK336 := n6_; have HB := n7_; clear n0_ n1_ n2_ n3_ n4_ n5_ n6_ n7_; (try clear hb); (try clear hb2); (try clear hk); (try clear hi); have p63 : 0 ≤ (t322 : Int) := oda; have q63 : (t322 : Int) < ((x12_3.length : Int) : Int) := oda; obtain ⟨go63, co63, eo63, gb63, gl63, cl63, HG63⟩ := Kd.R_form HO_12.out (by omega); (first | cases eo63 | (injection eo63 with ea_ en_ ec_; (first | subst ea_ | (injection ea_ with ea_; subst ea_)); subst ec_; clear en_)); have GB63 := Aside0.mk gb63; have GG63 := Aside0.mk HG63; clear gb63 gl63 HG63; obtain ⟨hx63_0, hf63_0⟩ := Kd.R_celln 0 HO_12.out (t322 : Int) p63 q63; replace p63 := eq_true p63; replace q63 := eq_true q63; obtain ⟨hy71_, hz71_⟩ := Kd.R_celln 0 HO_12.out (t322 : Int) (oda) (oda); have HP71 := Kd.R_putg HO_12.out (t322 : Int) t323) | ((with_reducible refine gate_store (t := 3) (p := 98) rfl ?_); refine store_event (t := 3) (p := 98) (v := ?vo_w72) (w1 := (w70.setCell ⟨go63, (t322 : Int).toNat, none⟩ (.int .i64 t323))) ?hg ?ho ?hn ?hr ?_; (case ho => rfl); (case hg => rfl); (case hn => rfl); (case hr => first | (go_simp; done) | (go_simp; rfl)); intro w72 hw; have hg : w70.grownBy w72 (some go63) := (by rw [hw]; exact HP71.2); have hp_ : Kd.R (Kd.int .i64) 3 w72 w.heap.size (fun _ => True) (.slice (some ⟨go63, 0, none⟩) x12_3.length co69) y348 := (by rw [hw, Ny348.out]; exact HP71.1); clear HP71; have n0_ := Aside0.mk (hp_); have n1_ := Aside0.mk (Kd.R_over' (v := (.slice (some ⟨go63, 0, none⟩) x12_3.length co69)) (rvR HO_325001.out) (Kd.R_typed HO_12.out) (by decide) hg); have n2_ := Aside0.mk (Kd.R_over' (v := (.slice (some ⟨go63, 0, none⟩) x12_3.length co69)) (rvR HO_331001.out) (Kd.R_typed HO_12.out) (by decide) hg); have n3_ := Aside0.mk (Kd.R_over' (v := (.slice (some ⟨go63, 0, none⟩) x12_3.length co69)) (rvR HO_337001.out) (Kd.R_typed HO_12.out) (by decide) hg); have n4_ := Aside0.mk (blk_grown (g := gb324) (o := .cells #[.int .i64 t317, .slice Ao10 t318.length co10] 28 (0, 0)) (bvK BK324.out) hg (Kd.R_ne HO_12.out BK324.out (by decide))); have n5_ := Aside0.mk (blk_grown (g := gb330) (o := .cells #[.int .i64 t325, .slice Ao15 t326.length co15] 28 (0, 0)) (bvK BK330.out) hg (Kd.R_ne HO_12.out BK330.out (by decide))); have n6_ := Aside0.mk (blk_grown (g := gb336) (o := .cells #[.int .i64 t331, .slice Ao22 t332.length co22] 28 (0, 0)) (bvK BK336.out) hg (Kd.R_ne HO_12.out BK336.out (by decide))); have n7_ := Aside0.mk ((by rw [hw]; exact below_set (HB.out) GB63.out : Below w.heap.size w w72)); clear HO_12; clear HO_325001; clear HO_331001; clear HO_337001; clear BK324; clear BK330; clear BK336; clear HB; have HO_12 := n0_; have HO_325001 := n1_; have HO_331001 := n2_; have HO_337001 := n3_; have BK324 := n4_; have BK330 := n5_; have BK336 := n6_; have HB := n7_; clear n0_ n1_ n2_ n3_ n4_ n5_ n6_ n7_; clear hg hw hp_; have hnb73 := NB324_336.out; have hnc73 := NB336_324.out; have hcz74_0 : w72.cell? ⟨gb324, 0, none⟩ = some (.int .i64 t317) := (blk_cell BK324.out 0).trans rfl; have hcz74_1 : w72.cell? ⟨gb324, 1, none⟩ = some (.slice Ao10 t318.length co10) := (blk_cell BK324.out 1).trans rfl; have hfz74_0 := blk_frozen BK324.out 0; have hfz74_1 := blk_frozen BK324.out 1) | ((with_reducible refine gate_callee (f := 22) rfl ?_); refine goesL_ (some 102) rfl rfl Try.func22 (by kernel_rfl) rfl #[.agg #[.int .i64 t317, .slice Ao10 t318.length co10], .slice (some ⟨go63, 0, none⟩) y348.length co69, .int .i64 t321] rfl (by (try simp only [List.map_toArray, List.map_cons, List.map_nil]); first | done | (rw [show y348.length = x12_3.length from (Kd.R_reads' HO_12.out).1.symm] <;> rfl) | rfl | (simp only [List.length_drop, List.length_take]; rfl)) ?_; (with_reducible refine (impl_EdgeValue.calls k3 t317 _ _ t318 _ _ y348 t321 t349 _ ?side1 ?side2 ?side3 ?side4 A64.out).mono ?_); (case side1 => exact kcR (Kd.R_reads' HO_325001.out).2.2); (case side2 => exact (Kd.R_reads' HO_325001.out).2.1); (case side3 => exact kcR (Kd.R_reads' HO_12.out).2.2); (case side4 => rw [show y348.length = x12_3.length from (Kd.R_reads' HO_12.out).1.symm]; exact (Kd.R_reads' HO_12.out).2.1); rintro e w75 ⟨rfl, hb⟩; refine ⟨_, rfl, ?_⟩; have n0_ := Aside0.mk (Kd.R_below (rvR HO_12.out) hb); have n1_ := Aside0.mk (Kd.R_below (rvR HO_325001.out) hb); have n2_ := Aside0.mk (Kd.R_below (rvR HO_331001.out) hb); have n3_ := Aside0.mk (Kd.R_below (rvR HO_337001.out) hb); have n4_ := Aside0.mk (blk_below (g := gb324) (o := .cells #[.int .i64 t317, .slice Ao10 t318.length co10] 28 (0, 0)) (bvK BK324.out) hb); have n5_ := Aside0.mk (blk_below (g := gb330) (o := .cells #[.int .i64 t325, .slice Ao15 t326.length co15] 28 (0, 0)) (bvK BK330.out) hb); have n6_ := Aside0.mk (blk_below (g := gb336) (o := .cells #[.int .i64 t331, .slice Ao22 t332.length co22] 28 (0, 0)) (bvK BK336.out) hb); have n7_ := Aside0.mk (below_step hbC hb); clear HO_12; clear HO_325001; clear HO_331001; clear HO_337001; clear BK324; clear BK330; clear BK336; clear HB; have HO_12 := n0_; have HO_325001 := n1_; have HO_331001 := n2_; have HO_337001 := n3_; have BK324 := n4_; have BK330 := n5_; have BK336 := n6_; have HB := n7_; clear n0_ n1_ n2_ n3_ n4_ n5_ n6_ n7_; (try clear hb); (try clear hb2); (try clear hk); (try clear hi)))
              go_roundg k3
              case measure => have := HJ5.out; have := HK2.out; have := HK3.out; omega
              case rel => exact ⟨(wrap64 (x73_2 + 1)), rsd, H', ⟨by have := HJ5.out; have := HK2.out; have := HK3.out; omega⟩, ⟨rvR HO_325001.out⟩, ⟨rvR HO_331001.out⟩, ⟨rvR HO_337001.out⟩, ⟨bvK BK324.out⟩, ⟨bvK BK330.out⟩, ⟨bvK BK336.out⟩, ⟨hbC⟩⟩
             ·rw [if_neg c65] at H
              have c65b0 : (t349 == t347) = false := beq_eq_false_iff_ne.mpr c65
              have c65b1 : (t349 != t347) = true := bne_iff_ne.mpr c65
              obtain rfl := Option.some.inj H
              have hnb76 := NB330_324.out
              have hnc76 := NB324_330.out
              have hnb77 := NB330_336.out
              have hnc77 := NB336_330.out
              have hcz78_0 : wr.cell? ⟨gb330, 0, none⟩ = some (.int .i64 t325) := (blk_cell BK330.out 0).trans rfl
              have hcz78_1 : wr.cell? ⟨gb330, 1, none⟩ = some (.slice Ao15 t326.length co15) := (blk_cell BK330.out 1).trans rfl
              have hfz78_0 := blk_frozen BK330.out 0
              have hfz78_1 := blk_frozen BK330.out 1
              obtain ⟨Ao79, co79, eo79⟩ := Kd.R_slice HO_12.out
              subst eo79
              go_wp2_with (first | ((with_reducible refine gate_callee (f := 22) rfl ?_); refine goesL_ (some 94) rfl rfl Try.func22 (by kernel_rfl) rfl #[.agg #[.int .i64 t325, .slice Ao15 t326.length co15], .slice Ao79 x12_3.length co79, .int .i64 t329] rfl lmB ?_; (with_reducible refine (impl_EdgeValue.calls k3 t325 _ _ t326 _ _ x12_3 t329 t347 _ ?side1 ?side2 ?side3 ?side4 A60.out).mono ?_); (case side1 => exact kcR (Kd.R_reads' HO_331001.out).2.2); (case side2 => exact (Kd.R_reads' HO_331001.out).2.1); (case side3 => exact kcR (Kd.R_reads' HO_12.out).2.2); (case side4 => exact (Kd.R_reads' HO_12.out).2.1); rintro e w80 ⟨rfl, hb⟩; refine ⟨_, rfl, ?_⟩; have n0_ := Aside0.mk (Kd.R_below (rvR HO_12.out) hb); have n1_ := Aside0.mk (Kd.R_below (rvR HO_325001.out) hb); have n2_ := Aside0.mk (Kd.R_below (rvR HO_331001.out) hb); have n3_ := Aside0.mk (Kd.R_below (rvR HO_337001.out) hb); have n4_ := Aside0.mk (blk_below (g := gb324) (o := .cells #[.int .i64 t317, .slice Ao10 t318.length co10] 28 (0, 0)) (bvK BK324.out) hb); have n5_ := Aside0.mk (blk_below (g := gb330) (o := .cells #[.int .i64 t325, .slice Ao15 t326.length co15] 28 (0, 0)) (bvK BK330.out) hb); have n6_ := Aside0.mk (blk_below (g := gb336) (o := .cells #[.int .i64 t331, .slice Ao22 t332.length co22] 28 (0, 0)) (bvK BK336.out) hb); have n7_ := Aside0.mk (below_step hbC hb); clear HO_12; clear HO_325001; clear HO_331001; clear HO_337001; clear BK324; clear BK330; clear BK336; clear HB; have HO_12 := n0_; have HO_325001 := n1_; have HO_331001 := n2_; have HO_337001 := n3_; have BK324 := n4_; have BK330 := n5_; have BK336 := n6_; have HB := n7_; clear n0_ n1_ n2_ n3_ n4_ n5_ n6_ n7_; (try clear hb); (try clear hb2); (try clear hk); (try clear hi); have p63 : 0 ≤ (t322 : Int) := oda; have q63 : (t322 : Int) < ((x12_3.length : Int) : Int) := oda; obtain ⟨go63, co63, eo63, gb63, gl63, cl63, HG63⟩ := Kd.R_form HO_12.out (by omega); (first | cases eo63 | (injection eo63 with ea_ en_ ec_; (first | subst ea_ | (injection ea_ with ea_; subst ea_)); subst ec_; clear en_)); have GB63 := Aside0.mk gb63; have GG63 := Aside0.mk HG63; clear gb63 gl63 HG63; obtain ⟨hx63_0, hf63_0⟩ := Kd.R_celln 0 HO_12.out (t322 : Int) p63 q63; replace p63 := eq_true p63; replace q63 := eq_true q63; obtain ⟨hy81_, hz81_⟩ := Kd.R_celln 0 HO_12.out (t322 : Int) (oda) (oda); have HP81 := Kd.R_putg HO_12.out (t322 : Int) t323) | ((with_reducible refine gate_store (t := 3) (p := 98) rfl ?_); refine store_event (t := 3) (p := 98) (v := ?vo_w82) (w1 := (w80.setCell ⟨go63, (t322 : Int).toNat, none⟩ (.int .i64 t323))) ?hg ?ho ?hn ?hr ?_; (case ho => rfl); (case hg => rfl); (case hn => rfl); (case hr => first | (go_simp; done) | (go_simp; rfl)); intro w82 hw; have hg : w80.grownBy w82 (some go63) := (by rw [hw]; exact HP81.2); have hp_ : Kd.R (Kd.int .i64) 3 w82 w.heap.size (fun _ => True) (.slice (some ⟨go63, 0, none⟩) x12_3.length co79) y348 := (by rw [hw, Ny348.out]; exact HP81.1); clear HP81; have n0_ := Aside0.mk (hp_); have n1_ := Aside0.mk (Kd.R_over' (v := (.slice (some ⟨go63, 0, none⟩) x12_3.length co79)) (rvR HO_325001.out) (Kd.R_typed HO_12.out) (by decide) hg); have n2_ := Aside0.mk (Kd.R_over' (v := (.slice (some ⟨go63, 0, none⟩) x12_3.length co79)) (rvR HO_331001.out) (Kd.R_typed HO_12.out) (by decide) hg); have n3_ := Aside0.mk (Kd.R_over' (v := (.slice (some ⟨go63, 0, none⟩) x12_3.length co79)) (rvR HO_337001.out) (Kd.R_typed HO_12.out) (by decide) hg); have n4_ := Aside0.mk (blk_grown (g := gb324) (o := .cells #[.int .i64 t317, .slice Ao10 t318.length co10] 28 (0, 0)) (bvK BK324.out) hg (Kd.R_ne HO_12.out BK324.out (by decide))); have n5_ := Aside0.mk (blk_grown (g := gb330) (o := .cells #[.int .i64 t325, .slice Ao15 t326.length co15] 28 (0, 0)) (bvK BK330.out) hg (Kd.R_ne HO_12.out BK330.out (by decide))); have n6_ := Aside0.mk (blk_grown (g := gb336) (o := .cells #[.int .i64 t331, .slice Ao22 t332.length co22] 28 (0, 0)) (bvK BK336.out) hg (Kd.R_ne HO_12.out BK336.out (by decide))); have n7_ := Aside0.mk ((by rw [hw]; exact below_set (HB.out) GB63.out : Below w.heap.size w w82)); clear HO_12; clear HO_325001; clear HO_331001; clear HO_337001; clear BK324; clear BK330; clear BK336; clear HB; have HO_12 := n0_; have HO_325001 := n1_; have HO_331001 := n2_; have HO_337001 := n3_; have BK324 := n4_; have BK330 := n5_; have BK336 := n6_; have HB := n7_; clear n0_ n1_ n2_ n3_ n4_ n5_ n6_ n7_; clear hg hw hp_; have hnb83 := NB324_336.out; have hnc83 := NB336_324.out; have hcz84_0 : w82.cell? ⟨gb324, 0, none⟩ = some (.int .i64 t317) := (blk_cell BK324.out 0).trans rfl; have hcz84_1 : w82.cell? ⟨gb324, 1, none⟩ = some (.slice Ao10 t318.length co10) := (blk_cell BK324.out 1).trans rfl; have hfz84_0 := blk_frozen BK324.out 0; have hfz84_1 := blk_frozen BK324.out 1) | ((with_reducible refine gate_callee (f := 22) rfl ?_); refine goesL_ (some 102) rfl rfl Try.func22 (by kernel_rfl) rfl #[.agg #[.int .i64 t317, .slice Ao10 t318.length co10], .slice (some ⟨go63, 0, none⟩) y348.length co79, .int .i64 t321] rfl (by (try simp only [List.map_toArray, List.map_cons, List.map_nil]); first | done | (rw [show y348.length = x12_3.length from (Kd.R_reads' HO_12.out).1.symm] <;> rfl) | rfl | (simp only [List.length_drop, List.length_take]; rfl)) ?_; (with_reducible refine (impl_EdgeValue.calls k3 t317 _ _ t318 _ _ y348 t321 t349 _ ?side1 ?side2 ?side3 ?side4 A64.out).mono ?_); (case side1 => exact kcR (Kd.R_reads' HO_325001.out).2.2); (case side2 => exact (Kd.R_reads' HO_325001.out).2.1); (case side3 => exact kcR (Kd.R_reads' HO_12.out).2.2); (case side4 => rw [show y348.length = x12_3.length from (Kd.R_reads' HO_12.out).1.symm]; exact (Kd.R_reads' HO_12.out).2.1); rintro e w85 ⟨rfl, hb⟩; refine ⟨_, rfl, ?_⟩; have n0_ := Aside0.mk (Kd.R_below (rvR HO_12.out) hb); have n1_ := Aside0.mk (Kd.R_below (rvR HO_325001.out) hb); have n2_ := Aside0.mk (Kd.R_below (rvR HO_331001.out) hb); have n3_ := Aside0.mk (Kd.R_below (rvR HO_337001.out) hb); have n4_ := Aside0.mk (blk_below (g := gb324) (o := .cells #[.int .i64 t317, .slice Ao10 t318.length co10] 28 (0, 0)) (bvK BK324.out) hb); have n5_ := Aside0.mk (blk_below (g := gb330) (o := .cells #[.int .i64 t325, .slice Ao15 t326.length co15] 28 (0, 0)) (bvK BK330.out) hb); have n6_ := Aside0.mk (blk_below (g := gb336) (o := .cells #[.int .i64 t331, .slice Ao22 t332.length co22] 28 (0, 0)) (bvK BK336.out) hb); have n7_ := Aside0.mk (below_step hbC hb); clear HO_12; clear HO_325001; clear HO_331001; clear HO_337001; clear BK324; clear BK330; clear BK336; clear HB; have HO_12 := n0_; have HO_325001 := n1_; have HO_331001 := n2_; have HO_337001 := n3_; have BK324 := n4_; have BK330 := n5_; have BK336 := n6_; have HB := n7_; clear n0_ n1_ n2_ n3_ n4_ n5_ n6_ n7_; (try clear hb); (try clear hb2); (try clear hk); (try clear hi)))
              go_ret
              exact ⟨ers, hbC⟩
            ·rw [if_neg c62] at H
             exact absurd H (by simp)
           ·rw [if_neg c61] at H
            exact absurd H (by simp)
       ·rw [if_neg c48] at H
        have c48b0 : decide (x73_2 < 8) = false := decide_eq_false c48
        clear c48
        replace H := Option.bind_eq_some_iff.mp H
        obtain ⟨t337, A860, H⟩ := H
        replace H : ((laws_wcHas.f k2 t337 t322).bind fun t340 => (some (!t340))) = some r := H
        have A86 := Aside0.mk A860
        clear A860
        replace H := Option.bind_eq_some_iff.mp H
        obtain ⟨t340, A870, H⟩ := H
        replace H : (some (!t340)) = some r := H
        have A87 := Aside0.mk A870
        clear A870
        obtain rfl := Option.some.inj H
        have hnb88 := NB330_324.out
        have hnc88 := NB324_330.out
        have hnb89 := NB330_336.out
        have hnc89 := NB336_330.out
        have hcz90_0 : wr.cell? ⟨gb330, 0, none⟩ = some (.int .i64 t325) := (blk_cell BK330.out 0).trans rfl
        have hcz90_1 : wr.cell? ⟨gb330, 1, none⟩ = some (.slice Ao15 t326.length co15) := (blk_cell BK330.out 1).trans rfl
        have hfz90_0 := blk_frozen BK330.out 0
        have hfz90_1 := blk_frozen BK330.out 1
        go_wp2_with (first | ((with_reducible refine gate_callee (f := 28) rfl ?_); refine goesL_ (some 108) rfl rfl Try.func28 (by kernel_rfl) rfl #[.agg #[.int .i64 t325, .slice Ao15 t326.length co15], .int .i64 t329] rfl lmB ?_; (with_reducible refine (impl_NeedsInputs.calls k2 t325 _ _ t326 t329 t337 _ ?side1 ?side2 A86.out).mono ?_); (case side1 => exact kcR (Kd.R_reads' HO_331001.out).2.2); (case side2 => exact (Kd.R_reads' HO_331001.out).2.1); rintro e w91 ⟨v338, rfl, ho0, hb⟩; refine ⟨_, rfl, ?_⟩; have n0_ := Aside0.mk (Kd.R_below (rvR HO_325001.out) hb); have n1_ := Aside0.mk (Kd.R_below (rvR HO_331001.out) hb); have n2_ := Aside0.mk (Kd.R_below (rvR HO_337001.out) hb); have n3_ := Aside0.mk (Kd.R_lower ho0 (below_size hbC)); have n4_ := Aside0.mk (blk_below (g := gb324) (o := .cells #[.int .i64 t317, .slice Ao10 t318.length co10] 28 (0, 0)) (bvK BK324.out) hb); have n5_ := Aside0.mk (blk_below (g := gb330) (o := .cells #[.int .i64 t325, .slice Ao15 t326.length co15] 28 (0, 0)) (bvK BK330.out) hb); have n6_ := Aside0.mk (blk_below (g := gb336) (o := .cells #[.int .i64 t331, .slice Ao22 t332.length co22] 28 (0, 0)) (bvK BK336.out) hb); have n7_ := Aside0.mk (below_step hbC hb); clear HO_325001; clear HO_331001; clear HO_337001; clear BK324; clear BK330; clear BK336; clear HB; have HO_325001 := n0_; have HO_331001 := n1_; have HO_337001 := n2_; have HO339 := n3_; have BK324 := n4_; have BK330 := n5_; have BK336 := n6_; have HB := n7_; clear n0_ n1_ n2_ n3_ n4_ n5_ n6_ n7_; (try clear hb); (try clear hb2); (try clear hk); (try clear hi); (try clear ho0); obtain ⟨Ao92, co92, eo92⟩ := Kd.R_slice HO339.out; subst eo92) | ((with_reducible refine gate_callee (f := 27) rfl ?_); refine goesL_ (some 110) rfl rfl Try.func27 (by kernel_rfl) rfl #[.slice Ao92 t337.length co92, .int .i64 t322] rfl lmB ?_; (with_reducible refine (laws_wcHas.calls k2 _ _ t337 t322 t340 _ ?side1 ?side2 A87.out).mono ?_); (case side1 => exact kcR (Kd.R_reads' HO339.out).2.2); (case side2 => exact (Kd.R_reads' HO339.out).2.1); rintro e w' ⟨rfl, ⟨nd, rfl⟩⟩; refine ⟨_, rfl, ?_⟩))
        go_ret
        exact ⟨ers, hbC⟩

/-- THE ONE PURE STATEMENT of laws_FnFixed: yours. -/
def laws_FnFixed.Pure : Prop := ∀ (l0 : List Int), l0.length ≤ maxLen → l0.length * 1 ≤ 140737488351232 → (∀ x ∈ l0, (Lit.int .u8 x).wf = true) → ∃ k, laws_FnFixed.f k l0 = some true
theorem laws_FnFixed.walk (P : laws_FnFixed.Pure) (a0 : Option Addr) (len0 cap0 : Nat) (z0 : List Int) (w : World) (w0 : (a0 = none ∧ len0 = 0 ∧ cap0 = 0 ∧ z0 = []) ∨ ∃ x, a0 = some x ∧ len0 ≤ cap0 ∧ cap0 ≤ maxLen ∧ z0.length = cap0 ∧ (∀ i, i < z0.length → w.cell? (x.add i) = some (.int .u8 (z0.getD i 0))) ∧ ∀ n ∈ z0, (Lit.int .u8 n).wf = true) (y0 : len0 * 1 ≤ 140737488351232) :
  Calls Try.prog 6 #[.slice a0 len0 cap0] w fun e w' => e = .returned (.bool true) ∧ Below w.heap.size w w' := by
 obtain ⟨l0, rfl, hr0, hm0, hw0, hc0⟩ := ReadsInt.ofRowC w0
 obtain ⟨k, h⟩ := P l0 hm0 y0 hw0
 refine (laws_FnFixed.calls k _ _ l0 true w (Kd.C_of_reads (d := (0 : Int)) (h1 := fun _ => rfl) hr0) hc0 h).mono ?_
 rintro e w' ⟨rfl, hd⟩
 exact ⟨rfl, hd⟩

end Go.Proofs.Ytpcckoljocpchaa.QFnFixed
