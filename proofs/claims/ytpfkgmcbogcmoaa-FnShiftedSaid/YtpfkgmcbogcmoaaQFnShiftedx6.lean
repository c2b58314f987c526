-- Written by a program of this session (mk.py). Lean checks it.
import Derived.Test.YtpfkgmcbogcmoaaQFnShiftedx0
import Derived.Test.YtpfkgmcbogcmoaaQFnShiftedx3
import Derived.Test.YtpfkgmcbogcmoaaQFnShiftedx4
namespace Go.Proofs.Ytpfkgmcbogcmoaa.QFnShifted
open Go.RowKit Go.Proofs.YtpfkgmcbogcmoaaW.PrintWords Go.Proofs.YtpfkgmcbogcmoaaW.PrintLast Go.Proofs.YtpfkgmcbogcmoaaW.PrintMore
attribute [local go_sem] max2_int min2_int max_two min_two max_three min_three max_four min_four   -- for this text's walks alone
set_option linter.unusedVariables false
set_option linter.unusedSimpArgs false

/-! ### spec_l1Number: function 107 -/
def spec_l1Number.f (k : Nat) (s0_0 : List Int) (s0_1 : Int) : Option (Int × Int) := (spec_l40Rd_pick.f k s0_0 s0_1 4).bind fun bt169 => ((spec_l40Rd_pick.f k s0_0 bt169.2 4).bind fun bt171 => ((spec_l40Rd_pick.f k s0_0 bt171.2 7).bind fun bt173 => ((spec_l40Rd_pick.f k s0_0 bt173.2 200).bind fun bt175 => ((some (([9999, (-9999), 5000, 100] : List Int) : List Int)).bind fun y177 => ((spec_l40Rd_pick.f k s0_0 bt175.2 4).bind fun bt180 => (if 0 ≤ bt180.1 then (if bt180.1 < (y177.length : Int) then ((spec_l40Rd_num.f k s0_0 bt180.2 (([bt169.1, bt171.1, wrap64 (bt173.1 - 3), 1, 0, wrap64 (bt175.1 - 100), rd y177 bt180.1] : List Int))).bind fun bt186 => (some (bt186.1, bt186.2))) else (none)) else (none)))))))
theorem spec_l1Number.mono : ∀ a0 a1 k, LeO (spec_l1Number.f k a0 a1) (spec_l1Number.f (k + 1) a0 a1) := by
 intro a0 a1 k
 unfold spec_l1Number.f
 repeat' first
   | (with_reducible exact spec_l40Rd_num.mono _ _ _ _)
   | (with_reducible exact spec_l40Rd_pick.mono _ _ _ _)
   | (with_reducible exact LeO.refl _)
   | (with_reducible exact LeO.none _)
   | (with_reducible refine LeO.ite ?_ ?_)
   | (with_reducible refine LeO.bind ?_ (fun _ => ?_))
   | exact spec_l40Rd_num.mono _ _ _ _
   | exact spec_l40Rd_pick.mono _ _ _ _
   | exact LeO.none _
   | refine LeO.ite ?_ ?_
   | refine LeO.bind ?_ (fun _ => ?_)
set_option maxHeartbeats 8000000 in
set_option maxRecDepth 100000 in
theorem spec_l1Number.calls (k : Nat) (g : Nat) (s0_0 : List Int) (s0_1 : Int) (r1 : Int) (r2 : Int) (w0 w : World) (hI : IsS119 w0 w g s0_0 s0_1) (hB : Below w0.heap.size w0 w) (h : spec_l1Number.f k s0_0 s0_1 = some (r1, r2)) :
  Calls Try.prog 107 #[.pointer (some ⟨g, 0, none⟩)] w fun e w' => e = .returned (.int .i64 r1) ∧ IsS119 w0 w' g s0_0 r2 ∧ Below w0.heap.size w0 w' ∧ KeepBut w w' g none := by
 have HI0 := Aside0.mk hI
 have HK := Aside0.mk (KeepBut.refl w g none)
 have HL := Aside0.mk hB.size
 clear hI
 have HW0 := Aside0.mk hB.size
 have HB := Aside0.mk hB
 clear hB
 have H : ((spec_l40Rd_pick.f k s0_0 s0_1 4).bind fun bt169 => ((spec_l40Rd_pick.f k s0_0 bt169.2 4).bind fun bt171 => ((spec_l40Rd_pick.f k s0_0 bt171.2 7).bind fun bt173 => ((spec_l40Rd_pick.f k s0_0 bt173.2 200).bind fun bt175 => ((some (([9999, (-9999), 5000, 100] : List Int) : List Int)).bind fun y177 => ((spec_l40Rd_pick.f k s0_0 bt175.2 4).bind fun bt180 => (if 0 ≤ bt180.1 then (if bt180.1 < (y177.length : Int) then ((spec_l40Rd_num.f k s0_0 bt180.2 (([bt169.1, bt171.1, wrap64 (bt173.1 - 3), 1, 0, wrap64 (bt175.1 - 100), rd y177 bt180.1] : List Int))).bind fun bt186 => (some (bt186.1, bt186.2))) else (none)) else (none)))))))) = some (r1, r2) := h
 clear h
 replace H := Option.bind_eq_some_iff.mp H
 obtain ⟨⟨t169, t170⟩, A20, H⟩ := H
 replace H : ((spec_l40Rd_pick.f k s0_0 t170 4).bind fun bt171 => ((spec_l40Rd_pick.f k s0_0 bt171.2 7).bind fun bt173 => ((spec_l40Rd_pick.f k s0_0 bt173.2 200).bind fun bt175 => ((some (([9999, (-9999), 5000, 100] : List Int) : List Int)).bind fun y177 => ((spec_l40Rd_pick.f k s0_0 bt175.2 4).bind fun bt180 => (if 0 ≤ bt180.1 then (if bt180.1 < (y177.length : Int) then ((spec_l40Rd_num.f k s0_0 bt180.2 (([t169, bt171.1, wrap64 (bt173.1 - 3), 1, 0, wrap64 (bt175.1 - 100), rd y177 bt180.1] : List Int))).bind fun bt186 => (some (bt186.1, bt186.2))) else (none)) else (none))))))) = some (r1, r2) := H
 have A2 := Aside0.mk A20
 clear A20
 replace H := Option.bind_eq_some_iff.mp H
 obtain ⟨⟨t171, t172⟩, A30, H⟩ := H
 replace H : ((spec_l40Rd_pick.f k s0_0 t172 7).bind fun bt173 => ((spec_l40Rd_pick.f k s0_0 bt173.2 200).bind fun bt175 => ((some (([9999, (-9999), 5000, 100] : List Int) : List Int)).bind fun y177 => ((spec_l40Rd_pick.f k s0_0 bt175.2 4).bind fun bt180 => (if 0 ≤ bt180.1 then (if bt180.1 < (y177.length : Int) then ((spec_l40Rd_num.f k s0_0 bt180.2 (([t169, t171, wrap64 (bt173.1 - 3), 1, 0, wrap64 (bt175.1 - 100), rd y177 bt180.1] : List Int))).bind fun bt186 => (some (bt186.1, bt186.2))) else (none)) else (none)))))) = some (r1, r2) := H
 have A3 := Aside0.mk A30
 clear A30
 replace H := Option.bind_eq_some_iff.mp H
 obtain ⟨⟨t173, t174⟩, A40, H⟩ := H
 replace H : ((spec_l40Rd_pick.f k s0_0 t174 200).bind fun bt175 => ((some (([9999, (-9999), 5000, 100] : List Int) : List Int)).bind fun y177 => ((spec_l40Rd_pick.f k s0_0 bt175.2 4).bind fun bt180 => (if 0 ≤ bt180.1 then (if bt180.1 < (y177.length : Int) then ((spec_l40Rd_num.f k s0_0 bt180.2 (([t169, t171, wrap64 (t173 - 3), 1, 0, wrap64 (bt175.1 - 100), rd y177 bt180.1] : List Int))).bind fun bt186 => (some (bt186.1, bt186.2))) else (none)) else (none))))) = some (r1, r2) := H
 have A4 := Aside0.mk A40
 clear A40
 replace H := Option.bind_eq_some_iff.mp H
 obtain ⟨⟨t175, t176⟩, A50, H⟩ := H
 replace H : ((some (([9999, (-9999), 5000, 100] : List Int) : List Int)).bind fun y177 => ((spec_l40Rd_pick.f k s0_0 t176 4).bind fun bt180 => (if 0 ≤ bt180.1 then (if bt180.1 < (y177.length : Int) then ((spec_l40Rd_num.f k s0_0 bt180.2 (([t169, t171, wrap64 (t173 - 3), 1, 0, wrap64 (t175 - 100), rd y177 bt180.1] : List Int))).bind fun bt186 => (some (bt186.1, bt186.2))) else (none)) else (none)))) = some (r1, r2) := H
 have A5 := Aside0.mk A50
 clear A50
 obtain ⟨y177, hy177⟩ : ∃ y_ : List Int, y_ = (([9999, (-9999), 5000, 100] : List Int)) := ⟨_, rfl⟩
 replace H : ((spec_l40Rd_pick.f k s0_0 t176 4).bind fun bt180 => (if 0 ≤ bt180.1 then (if bt180.1 < (y177.length : Int) then ((spec_l40Rd_num.f k s0_0 bt180.2 (([t169, t171, wrap64 (t173 - 3), 1, 0, wrap64 (t175 - 100), rd y177 bt180.1] : List Int))).bind fun bt186 => (some (bt186.1, bt186.2))) else (none)) else (none))) = some (r1, r2) := by first | (rw [hy177]; with_reducible exact H) | (have H2_ := (Option.bind_some _ _).symm.trans H; rw [hy177]; with_reducible exact H2_) | (have H2_ := (Option.bind_some _ _).symm.trans H; with_reducible exact H2_) | with_reducible exact H | (rw [hy177]; exact H) | exact H
 have Ny177 := Aside0.mk hy177
 clear hy177
 replace H := Option.bind_eq_some_iff.mp H
 obtain ⟨⟨t180, t181⟩, A60, H⟩ := H
 replace H : (if 0 ≤ t180 then (if t180 < (y177.length : Int) then ((spec_l40Rd_num.f k s0_0 t181 (([t169, t171, wrap64 (t173 - 3), 1, 0, wrap64 (t175 - 100), rd y177 t180] : List Int))).bind fun bt186 => (some (bt186.1, bt186.2))) else (none)) else (none)) = some (r1, r2) := H
 have A6 := Aside0.mk A60
 clear A60
 by_cases c7 : 0 ≤ t180
 ·rw [if_pos c7] at H
  have c7b0 : decide (0 ≤ t180) = true := decide_eq_true c7
  clear c7
  by_cases c8 : t180 < (y177.length : Int)
  ·rw [if_pos c8] at H
   have c8b0 : decide (t180 < (y177.length : Int)) = true := decide_eq_true c8
   clear c8
   obtain ⟨y183, hy183⟩ : ∃ y_ : List Int, y_ = (([t169, t171, wrap64 (t173 - 3), 1, 0, wrap64 (t175 - 100), rd y177 t180] : List Int)) := ⟨_, rfl⟩
   replace H : ((spec_l40Rd_num.f k s0_0 t181 y183).bind fun bt186 => (some (bt186.1, bt186.2))) = some (r1, r2) := by first | (rw [hy183]; with_reducible exact H) | (have H2_ := (Option.bind_some _ _).symm.trans H; rw [hy183]; with_reducible exact H2_) | (have H2_ := (Option.bind_some _ _).symm.trans H; with_reducible exact H2_) | with_reducible exact H | (rw [hy183]; exact H) | exact H
   have Ny183 := Aside0.mk hy183
   clear hy183
   replace H := Option.bind_eq_some_iff.mp H
   obtain ⟨⟨t186, t187⟩, A90, H⟩ := H
   replace H : (some (t186, t187)) = some (r1, r2) := H
   have A9 := Aside0.mk A90
   clear A90
   simp only [Option.some.injEq, Prod.mk.injEq] at H
   obtain ⟨rfl, rfl⟩ := H
   go_enter Try.func107, Try.ntmps107
   go_wp2_with (first | ((with_reducible refine gate_callee (f := 67) rfl ?_); refine goesL_ (some 5) rfl rfl Try.func67 (by kernel_rfl) rfl #[.pointer (some ⟨g, 0, none⟩), .int .i64 4] rfl (by (try simp only [List.map_toArray, List.map_cons, List.map_nil]); first | done | rfl | (simp only [List.length_drop, List.length_take]; rfl)) ?_; (with_reducible refine (spec_l40Rd_pick.calls k g s0_0 s0_1 4 t169 t170 w0 _ ?side1 ?side2 A2.out).mono ?_); (case side1 => repeat (first | (with_reducible first | exact HI0.out | apply IsS119.alloc | apply IsS119.drewN | apply IsS119.drew | apply IsS119.set_1) | exact HI0.out)); (case side2 => repeat (first | (with_reducible first | exact HB.out | apply bwA | apply bwN | apply bwD | refine below_set ?_ (IsS119.ge HI0.out)) | exact HB.out)); rintro e w10 ⟨rfl, hi, hb, hk⟩; refine ⟨_, rfl, ?_⟩; have n0_ := Aside0.mk (KeepBut.trans (by repeat (first | (with_reducible first | exact HK.out | apply KeepBut.set_ | apply keep_drewN | apply keep_drew | apply keep_alloc) | exact HK.out)) hk (.inl rfl)); have n1_ := Aside0.mk (hb); have n2_ := Aside0.mk (hi); clear HK; clear HB; clear HI0; have HK := n0_; have HB := n1_; have HI0 := n2_; clear n0_ n1_ n2_; (try clear hb); (try clear hb2); (try clear hk); (try clear hi)) | ((with_reducible refine gate_callee (f := 67) rfl ?_); refine goesL_ (some 7) rfl rfl Try.func67 (by kernel_rfl) rfl #[.pointer (some ⟨g, 0, none⟩), .int .i64 4] rfl (by (try simp only [List.map_toArray, List.map_cons, List.map_nil]); first | done | rfl | (simp only [List.length_drop, List.length_take]; rfl)) ?_; (with_reducible refine (spec_l40Rd_pick.calls k g s0_0 t170 4 t171 t172 w0 _ ?side1 ?side2 A3.out).mono ?_); (case side1 => repeat (first | (with_reducible first | exact HI0.out | apply IsS119.alloc | apply IsS119.drewN | apply IsS119.drew | apply IsS119.set_1) | exact HI0.out)); (case side2 => repeat (first | (with_reducible first | exact HB.out | apply bwA | apply bwN | apply bwD | refine below_set ?_ (IsS119.ge HI0.out)) | exact HB.out)); rintro e w11 ⟨rfl, hi, hb, hk⟩; refine ⟨_, rfl, ?_⟩; have n0_ := Aside0.mk (KeepBut.trans (by repeat (first | (with_reducible first | exact HK.out | apply KeepBut.set_ | apply keep_drewN | apply keep_drew | apply keep_alloc) | exact HK.out)) hk (.inl rfl)); have n1_ := Aside0.mk (hb); have n2_ := Aside0.mk (hi); clear HK; clear HB; clear HI0; have HK := n0_; have HB := n1_; have HI0 := n2_; clear n0_ n1_ n2_; (try clear hb); (try clear hb2); (try clear hk); (try clear hi)) | ((with_reducible refine gate_callee (f := 67) rfl ?_); refine goesL_ (some 9) rfl rfl Try.func67 (by kernel_rfl) rfl #[.pointer (some ⟨g, 0, none⟩), .int .i64 7] rfl (by (try simp only [List.map_toArray, List.map_cons, List.map_nil]); first | done | rfl | (simp only [List.length_drop, List.length_take]; rfl)) ?_; (with_reducible refine (spec_l40Rd_pick.calls k g s0_0 t172 7 t173 t174 w0 _ ?side1 ?side2 A4.out).mono ?_); (case side1 => repeat (first | (with_reducible first | exact HI0.out | apply IsS119.alloc | apply IsS119.drewN | apply IsS119.drew | apply IsS119.set_1) | exact HI0.out)); (case side2 => repeat (first | (with_reducible first | exact HB.out | apply bwA | apply bwN | apply bwD | refine below_set ?_ (IsS119.ge HI0.out)) | exact HB.out)); rintro e w12 ⟨rfl, hi, hb, hk⟩; refine ⟨_, rfl, ?_⟩; have n0_ := Aside0.mk (KeepBut.trans (by repeat (first | (with_reducible first | exact HK.out | apply KeepBut.set_ | apply keep_drewN | apply keep_drew | apply keep_alloc) | exact HK.out)) hk (.inl rfl)); have n1_ := Aside0.mk (hb); have n2_ := Aside0.mk (hi); clear HK; clear HB; clear HI0; have HK := n0_; have HB := n1_; have HI0 := n2_; clear n0_ n1_ n2_; (try clear hb); (try clear hb2); (try clear hk); (try clear hi)) | ((with_reducible refine gate_callee (f := 67) rfl ?_); refine goesL_ (some 12) rfl rfl Try.func67 (by kernel_rfl) rfl #[.pointer (some ⟨g, 0, none⟩), .int .i64 200] rfl (by (try simp only [List.map_toArray, List.map_cons, List.map_nil]); first | done | rfl | (simp only [List.length_drop, List.length_take]; rfl)) ?_; (with_reducible refine (spec_l40Rd_pick.calls k g s0_0 t174 200 t175 t176 w0 _ ?side1 ?side2 A5.out).mono ?_); (case side1 => repeat (first | (with_reducible first | exact HI0.out | apply IsS119.alloc | apply IsS119.drewN | apply IsS119.drew | apply IsS119.set_1) | exact HI0.out)); (case side2 => repeat (first | (with_reducible first | exact HB.out | apply bwA | apply bwN | apply bwD | refine below_set ?_ (IsS119.ge HI0.out)) | exact HB.out)); rintro e w13 ⟨rfl, hi, hb, hk⟩; refine ⟨_, rfl, ?_⟩; have n0_ := Aside0.mk (KeepBut.trans (by repeat (first | (with_reducible first | exact HK.out | apply KeepBut.set_ | apply keep_drewN | apply keep_drew | apply keep_alloc) | exact HK.out)) hk (.inl rfl)); have n1_ := Aside0.mk (hb); have n2_ := Aside0.mk (hi); clear HK; clear HB; clear HI0; have HK := n0_; have HB := n1_; have HI0 := n2_; clear n0_ n1_ n2_; (try clear hb); (try clear hb2); (try clear hk); (try clear hi)) | ((with_reducible refine gate_dst (N := 14) rfl ?_); refine Kd.R_lit (Kd.int .i64) _ 3 ?hg (N := 14) ?hd (xs := ([9999, (-9999), 5000, 100] : List Int)) (inner := [.int .i64 9999, .int .i64 (-9999), .int .i64 5000, .int .i64 100]) (ok := fun _ => True) (okp := fun _ => True) ?hr ?hp (fun _ hk => hk) trivial (Below.refl _ _) (Nat.le_refl _) (by simp) ?_; (case hd => rfl); (case hg => rfl); (case hr => first | (go_simp; done) | (go_simp; rfl)); (case hp => exact (Reps.one (show Kd.M (Kd.int .i64) _ _ _ 9999 [.int .i64 9999] from rfl) (Reps.one (show Kd.M (Kd.int .i64) _ _ _ (-9999) [.int .i64 (-9999)] from rfl) (Reps.one (show Kd.M (Kd.int .i64) _ _ _ 5000 [.int .i64 5000] from rfl) (Reps.one (show Kd.M (Kd.int .i64) _ _ _ 100 [.int .i64 100] from rfl) (Reps.none _ _)))))); intro v178 w14 ho15 hb hg_ hnew_; clear hg_ hnew_; (first | rw [← Ny177.out] at ho15 | (simp only [Int.reduceToNat] at ho15; rw [← Ny177.out] at ho15)); have n0_ := Aside0.mk (Kd.R_lower ho15 (keep_size (w := w) (g := g) (row := none) (by repeat (first | (with_reducible first | exact HK.out | apply KeepBut.set_ | apply keep_drewN | apply keep_drew | apply keep_alloc) | exact HK.out)))); have n1_ := Aside0.mk (IsS119.below (by repeat (first | (with_reducible first | exact HI0.out | apply IsS119.alloc | apply IsS119.drewN | apply IsS119.drew | apply IsS119.set_1) | exact HI0.out)) hb); have n2_ := Aside0.mk (KeepBut.trans (by repeat (first | (with_reducible first | exact HK.out | apply KeepBut.set_ | apply keep_drewN | apply keep_drew | apply keep_alloc) | exact HK.out)) (KeepBut.of_below hb g none) (.inl rfl)); have n3_ := Aside0.mk (below_step (by repeat (first | (with_reducible first | exact HB.out | apply bwA | apply bwN | apply bwD | refine below_set ?_ (IsS119.ge HI0.out)) | exact HB.out)) hb); clear HI0; clear HK; clear HB; have HO179 := n0_; have HI0 := n1_; have HK := n2_; have HB := n3_; clear n0_ n1_ n2_ n3_; clear hb ho15) | ((with_reducible refine gate_callee (f := 67) rfl ?_); refine goesL_ (some 16) rfl rfl Try.func67 (by kernel_rfl) rfl #[.pointer (some ⟨g, 0, none⟩), .int .i64 4] rfl (by (try simp only [List.map_toArray, List.map_cons, List.map_nil]); first | done | rfl | (simp only [List.length_drop, List.length_take]; rfl)) ?_; (with_reducible refine (spec_l40Rd_pick.calls k g s0_0 t176 4 t180 t181 w0 _ ?side1 ?side2 A6.out).mono ?_); (case side1 => repeat (first | (with_reducible first | exact HI0.out | apply IsS119.alloc | apply IsS119.drewN | apply IsS119.drew | apply IsS119.set_1) | exact HI0.out)); (case side2 => repeat (first | (with_reducible first | exact HB.out | apply bwA | apply bwN | apply bwD | refine below_set ?_ (IsS119.ge HI0.out)) | exact HB.out)); rintro e w16 ⟨rfl, hi, hb, hk⟩; refine ⟨_, rfl, ?_⟩; have n0_ := Aside0.mk (Kd.R_mono (Kd.R_keep (IsS119.apart (show IsS119 w0 _ g s0_0 t176 from by repeat (first | (with_reducible first | exact HI0.out | apply IsS119.alloc | apply IsS119.drewN | apply IsS119.drew | apply IsS119.set_1) | exact HI0.out)) (by (with_reducible repeat (first | apply Kd.R_alloc | apply Kd.R_drewN | apply Kd.R_drew)); exact HO179.out) (by decide)) hk (fun _ h => h.2)) (fun _ h => h.1)); have n1_ := Aside0.mk (KeepBut.trans (by repeat (first | (with_reducible first | exact HK.out | apply KeepBut.set_ | apply keep_drewN | apply keep_drew | apply keep_alloc) | exact HK.out)) hk (.inl rfl)); have n2_ := Aside0.mk (hb); have n3_ := Aside0.mk (hi); clear HO179; clear HK; clear HB; clear HI0; have HO179 := n0_; have HK := n1_; have HB := n2_; have HI0 := n3_; clear n0_ n1_ n2_ n3_; (try clear hb); (try clear hb2); (try clear hk); (try clear hi); obtain ⟨Ao17, co17, eo17⟩ := Kd.R_slice HO179.out; subst eo17; have p182 : 0 ≤ (t180 : Int) := of_decide_eq_true (by first | (with_reducible assumption) | assumption); have q182 : t180 < (y177.length : Int) := of_decide_eq_true (by first | (with_reducible assumption) | assumption); obtain ⟨ad182, e182, hx182_0⟩ := Kd.at_int (Kd.R_reads' HO179.out).2.2 t180 p182 q182; cases e182; replace p182 := eq_true p182; replace q182 := eq_true q182) | ((with_reducible refine gate_dst (N := 19) rfl ?_); refine Kd.R_lit (Kd.int .i64) _ 3 ?hg (N := 19) ?hd (xs := ([t169, t171, wrap64 (t173 - 3), 1, 0, wrap64 (t175 - 100), rd y177 t180] : List Int)) (inner := [.int .i64 t169, .int .i64 t171, .int .i64 (wrap64 (t173 - 3)), .int .i64 1, .int .i64 0, .int .i64 (wrap64 (t175 - 100)), .int .i64 (rd y177 t180)]) (ok := fun _ => True) (okp := fun _ => True) ?hr ?hp (fun _ hk => hk) trivial (Below.refl _ _) (Nat.le_refl _) (by simp) ?_; (case hd => rfl); (case hg => rfl); (case hr => first | (go_simp; done) | (go_simp; rfl)); (case hp => exact (Reps.one (show Kd.M (Kd.int .i64) _ _ _ t169 [.int .i64 t169] from rfl) (Reps.one (show Kd.M (Kd.int .i64) _ _ _ t171 [.int .i64 t171] from rfl) (Reps.one (show Kd.M (Kd.int .i64) _ _ _ (wrap64 (t173 - 3)) [.int .i64 (wrap64 (t173 - 3))] from rfl) (Reps.one (show Kd.M (Kd.int .i64) _ _ _ 1 [.int .i64 1] from rfl) (Reps.one (show Kd.M (Kd.int .i64) _ _ _ 0 [.int .i64 0] from rfl) (Reps.one (show Kd.M (Kd.int .i64) _ _ _ (wrap64 (t175 - 100)) [.int .i64 (wrap64 (t175 - 100))] from rfl) (Reps.one (show Kd.M (Kd.int .i64) _ _ _ (rd y177 t180) [.int .i64 (rd y177 t180)] from rfl) (Reps.none _ _))))))))); intro v184 w18 ho19 hb hg_ hnew_; clear hg_ hnew_; (first | rw [← Ny183.out] at ho19 | (simp only [Int.reduceToNat] at ho19; rw [← Ny183.out] at ho19)); have n0_ := Aside0.mk (Kd.R_elder' (by (with_reducible repeat (first | apply Kd.R_alloc | apply Kd.R_drewN | apply Kd.R_drew)); exact HO179.out) (Kd.R_base ho19) hb); have n1_ := Aside0.mk (Kd.R_lower (Kd.R_new' ho19 (Kd.R_lt (by (with_reducible repeat (first | apply Kd.R_alloc | apply Kd.R_drewN | apply Kd.R_drew)); exact HO179.out))) (keep_size (w := w) (g := g) (row := none) (by repeat (first | (with_reducible first | exact HK.out | apply KeepBut.set_ | apply keep_drewN | apply keep_drew | apply keep_alloc) | exact HK.out)))); have n2_ := Aside0.mk (IsS119.below (by repeat (first | (with_reducible first | exact HI0.out | apply IsS119.alloc | apply IsS119.drewN | apply IsS119.drew | apply IsS119.set_1) | exact HI0.out)) hb); have n3_ := Aside0.mk (KeepBut.trans (by repeat (first | (with_reducible first | exact HK.out | apply KeepBut.set_ | apply keep_drewN | apply keep_drew | apply keep_alloc) | exact HK.out)) (KeepBut.of_below hb g none) (.inl rfl)); have n4_ := Aside0.mk (below_step (by repeat (first | (with_reducible first | exact HB.out | apply bwA | apply bwN | apply bwD | refine below_set ?_ (IsS119.ge HI0.out)) | exact HB.out)) hb); clear HO179; clear HI0; clear HK; clear HB; have HO179 := n0_; have HO185 := n1_; have HI0 := n2_; have HK := n3_; have HB := n4_; clear n0_ n1_ n2_ n3_ n4_; clear hb ho19; obtain ⟨Ao20, co20, eo20⟩ := Kd.R_slice HO185.out; subst eo20) | ((with_reducible refine gate_callee (f := 60) rfl ?_); refine goesL_ (some 20) rfl rfl Try.func60 (by kernel_rfl) rfl #[.pointer (some ⟨g, 0, none⟩), .slice Ao20 y183.length co20] rfl (by (try simp only [List.map_toArray, List.map_cons, List.map_nil]); first | done | rfl | (simp only [List.length_drop, List.length_take]; rfl)) ?_; (with_reducible refine (spec_l40Rd_num.calls k g s0_0 t181 _ _ y183 t186 t187 w0 _ ?side1 ?side2 ?side3 ?side4 ?side5 A9.out).mono ?_); (case side1 => repeat (first | (with_reducible first | exact HI0.out | apply IsS119.alloc | apply IsS119.drewN | apply IsS119.drew | apply IsS119.set_1) | exact HI0.out)); (case side2 => repeat (first | (with_reducible first | exact HB.out | apply bwA | apply bwN | apply bwD | refine below_set ?_ (IsS119.ge HI0.out)) | exact HB.out)); (case side3 => repeat (first | exact (Kd.R_reads' HO185.out).2.2 | (with_reducible refine Kd.C_alloc ?_ _) | (with_reducible refine Kd.C_drewN ?_ _) | (with_reducible refine Kd.C_drew ?_))); (case side4 => exact (Kd.R_reads' HO185.out).2.1); (case side5 => exact far_slice (IsS119.own_ne HI0.out HO185.out (by decide))); rintro e w21 ⟨rfl, hi, hb, hk⟩; refine ⟨_, rfl, ?_⟩; have n0_ := Aside0.mk (Kd.R_mono (Kd.R_keep (IsS119.apart (show IsS119 w0 _ g s0_0 t181 from by repeat (first | (with_reducible first | exact HI0.out | apply IsS119.alloc | apply IsS119.drewN | apply IsS119.drew | apply IsS119.set_1) | exact HI0.out)) (by (with_reducible repeat (first | apply Kd.R_alloc | apply Kd.R_drewN | apply Kd.R_drew)); exact HO179.out) (by decide)) hk (fun _ h => h.2)) (fun _ h => h.1)); have n1_ := Aside0.mk (Kd.R_mono (Kd.R_keep (IsS119.apart (show IsS119 w0 _ g s0_0 t181 from by repeat (first | (with_reducible first | exact HI0.out | apply IsS119.alloc | apply IsS119.drewN | apply IsS119.drew | apply IsS119.set_1) | exact HI0.out)) (by (with_reducible repeat (first | apply Kd.R_alloc | apply Kd.R_drewN | apply Kd.R_drew)); exact HO185.out) (by decide)) hk (fun _ h => h.2)) (fun _ h => h.1)); have n2_ := Aside0.mk (KeepBut.trans (by repeat (first | (with_reducible first | exact HK.out | apply KeepBut.set_ | apply keep_drewN | apply keep_drew | apply keep_alloc) | exact HK.out)) hk (.inl rfl)); have n3_ := Aside0.mk (hb); have n4_ := Aside0.mk (hi); clear HO179; clear HO185; clear HK; clear HB; clear HI0; have HO179 := n0_; have HO185 := n1_; have HK := n2_; have HB := n3_; have HI0 := n4_; clear n0_ n1_ n2_ n3_ n4_; (try clear hb); (try clear hb2); (try clear hk); (try clear hi)))
   go_ret
   exact ⟨by first | rfl | (simp [errW_none, errW_some] <;> rfl) | (simp [*, errW_none, errW_some] <;> rfl), by repeat (first | (with_reducible first | exact HI0.out | apply IsS119.alloc | apply IsS119.drewN | apply IsS119.drew | apply IsS119.set_1) | exact HI0.out), by repeat (first | (with_reducible first | exact HB.out | apply bwA | apply bwN | apply bwD | refine below_set ?_ (IsS119.ge HI0.out)) | exact HB.out), by repeat (first | (with_reducible first | exact HK.out | apply KeepBut.set_ | apply keep_drewN | apply keep_drew | apply keep_alloc) | exact HK.out)⟩
  ·rw [if_neg c8] at H
   exact absurd H (by simp)
 ·rw [if_neg c7] at H
  exact absurd H (by simp)

/-! ### spec_l1Pick: function 108 -/
def spec_l1Pick.l0 : Nat → List Int → Int → Int → Int → List Int → Int → Option (Int × Int)
 | 0, _, _, _, _, _, _ => none
 | k + 1, x1, x2, x7, x8, x1000, x1001 => if x8 < (x1.length : Int) then (if (x1.length : Int) = 0 then (none) else (if 0 ≤ (Int.tmod (wrap64 (x7 + x8)) (x1.length : Int)) then (if (Int.tmod (wrap64 (x7 + x8)) (x1.length : Int)) < (x1.length : Int) then (if (rd x1 (Int.tmod (wrap64 (x7 + x8)) (x1.length : Int))) = x2 then (some (Int.tmod (wrap64 (x7 + x8)) (x1.length : Int), x1001)) else (spec_l1Pick.l0 k x1 x2 x7 (wrap64 (x8 + 1)) x1000 x1001)) else (none)) else (none))) else (some ((-1), x1001))
def spec_l1Pick.f (k : Nat) (s0_0 : List Int) (s0_1 : Int) (l1 : List Int) (a2 : Int) : Option (Int × Int) := (spec_l40Rd_pick.f k s0_0 s0_1 (l1.length : Int)).bind fun bt188 => (spec_l1Pick.l0 k l1 a2 bt188.1 0 s0_0 bt188.2)
theorem spec_l1Pick.mono_l : ∀ k, (∀ y0 y1 y2 y3 y4 y5, LeO (spec_l1Pick.l0 k y0 y1 y2 y3 y4 y5) (spec_l1Pick.l0 (k + 1) y0 y1 y2 y3 y4 y5))
 | 0 => fun _ _ _ _ _ _ r h => by simp [spec_l1Pick.l0] at h
 | k + 1 => by
  have ih0 := spec_l1Pick.mono_l k
  ·intro y0 y1 y2 y3 y4 y5
   unfold spec_l1Pick.l0
   repeat' first
   | (with_reducible exact ih0 _ _ _ _ _ _)
   | (with_reducible exact spec_l40Rd_pick.mono _ _ _ _)
   | (with_reducible exact LeO.refl _)
   | (with_reducible exact LeO.none _)
   | (with_reducible refine LeO.ite ?_ ?_)
   | (with_reducible refine LeO.bind ?_ (fun _ => ?_))
   | exact ih0 _ _ _ _ _ _
   | exact spec_l40Rd_pick.mono _ _ _ _
   | exact LeO.none _
   | refine LeO.ite ?_ ?_
   | refine LeO.bind ?_ (fun _ => ?_)
theorem spec_l1Pick.mono : ∀ a0 a1 a2 a3 k, LeO (spec_l1Pick.f k a0 a1 a2 a3) (spec_l1Pick.f (k + 1) a0 a1 a2 a3) := by
 intro a0 a1 a2 a3 k
 have ih0 := spec_l1Pick.mono_l k
 unfold spec_l1Pick.f
 repeat' first
   | (with_reducible exact ih0 _ _ _ _ _ _)
   | (with_reducible exact spec_l40Rd_pick.mono _ _ _ _)
   | (with_reducible exact LeO.refl _)
   | (with_reducible exact LeO.none _)
   | (with_reducible refine LeO.ite ?_ ?_)
   | (with_reducible refine LeO.bind ?_ (fun _ => ?_))
   | exact ih0 _ _ _ _ _ _
   | exact spec_l40Rd_pick.mono _ _ _ _
   | exact LeO.none _
   | refine LeO.ite ?_ ?_
   | refine LeO.bind ?_ (fun _ => ?_)
set_option maxHeartbeats 8000000 in
set_option maxRecDepth 100000 in
theorem spec_l1Pick.calls (k : Nat) (g : Nat) (s0_0 : List Int) (s0_1 : Int) (A1 : Option Addr) (c1 : Nat) (l1 : List Int) (a2 : Int) (r1 : Int) (r2 : Int) (w0 w : World) (hI : IsS119 w0 w g s0_0 s0_1) (hB : Below w0.heap.size w0 w) (hr1 : Kd.C (Kd.int .i64) w A1 l1.length l1) (hc1 : l1.length ≤ c1) (hf1 : ∀ ad, A1 = some ad → 0 < l1.length → ad.block ≠ g) (h : spec_l1Pick.f k s0_0 s0_1 l1 a2 = some (r1, r2)) :
  Calls Try.prog 108 #[.pointer (some ⟨g, 0, none⟩), .slice A1 l1.length c1, .int .i64 a2] w fun e w' => e = .returned (.int .i64 r1) ∧ IsS119 w0 w' g s0_0 r2 ∧ Below w0.heap.size w0 w' ∧ KeepBut w w' g none := by
 have HR1 := Aside0.mk hr1
 have HC1 := Aside0.mk hc1
 clear hr1 hc1
 have HI0 := Aside0.mk hI
 have HK := Aside0.mk (KeepBut.refl w g none)
 have HL := Aside0.mk hB.size
 clear hI
 have HW0 := Aside0.mk hB.size
 have HB := Aside0.mk hB
 clear hB
 have H : ((spec_l40Rd_pick.f k s0_0 s0_1 (l1.length : Int)).bind fun bt188 => (spec_l1Pick.l0 k l1 a2 bt188.1 0 s0_0 bt188.2)) = some (r1, r2) := h
 clear h
 replace H := Option.bind_eq_some_iff.mp H
 obtain ⟨⟨t188, t189⟩, A40, H⟩ := H
 replace H : (spec_l1Pick.l0 k l1 a2 t188 0 s0_0 t189) = some (r1, r2) := H
 have A4 := Aside0.mk A40
 clear A40
 have H' := Aside0.mk H
 clear H
 go_enter Try.func108, Try.ntmps108
 go_wp2_with (first | ((with_reducible refine gate_callee (f := 67) rfl ?_); refine goesL_ (some 13) rfl rfl Try.func67 (by kernel_rfl) rfl #[.pointer (some ⟨g, 0, none⟩), .int .i64 (l1.length : Int)] rfl (by (try simp only [List.map_toArray, List.map_cons, List.map_nil]); first | done | rfl | (simp only [List.length_drop, List.length_take]; rfl)) ?_; (with_reducible refine (spec_l40Rd_pick.calls k g s0_0 s0_1 (l1.length : Int) t188 t189 w0 _ ?side1 ?side2 A4.out).mono ?_); (case side1 => repeat (first | (with_reducible first | exact HI0.out | apply IsS119.alloc | apply IsS119.drewN | apply IsS119.drew | apply IsS119.set_1) | exact HI0.out)); (case side2 => repeat (first | (with_reducible first | exact HB.out | apply bwA | apply bwN | apply bwD | refine below_set ?_ (IsS119.ge HI0.out)) | exact HB.out)); rintro e w5 ⟨rfl, hi, hb, hk⟩; refine ⟨_, rfl, ?_⟩; have n0_ := Aside0.mk (KeepBut.trans (by repeat (first | (with_reducible first | exact HK.out | apply KeepBut.set_ | apply keep_drewN | apply keep_drew | apply keep_alloc) | exact HK.out)) hk (.inl rfl)); have n1_ := Aside0.mk (hb); have n2_ := Aside0.mk (hi); clear HK; clear HB; clear HI0; have HK := n0_; have HB := n1_; have HI0 := n2_; clear n0_ n1_ n2_; (try clear hb); (try clear hb2); (try clear hk); (try clear hi)))
 go_loopg [8] k (fun kq v8 w' => ∃ (x8_1 : Int), v8 = .int .i64 x8_1 ∧ Aside0 (spec_l1Pick.l0 kq l1 a2 t188 x8_1 s0_0 t189 = some (r1, r2)) ∧ Aside0 (kq ≤ k) ∧ Aside0 (IsS119 w0 w' g s0_0 t189) ∧ Aside0 (KeepBut w w' g none) ∧ Aside0 (Below w0.heap.size w0 w'))
 case atStart => exact ⟨(0), (by first | rfl | (simp; done) | (simp [*]; done)), H', ⟨Nat.le_refl _⟩, ⟨by repeat (first | (with_reducible first | exact HI0.out | apply IsS119.alloc | apply IsS119.drewN | apply IsS119.drew | apply IsS119.set_1) | exact HI0.out)⟩, ⟨by repeat (first | (with_reducible first | exact HK.out | apply KeepBut.set_ | apply keep_drewN | apply keep_drew | apply keep_alloc) | exact HK.out)⟩, ⟨by repeat (first | (with_reducible first | exact HB.out | apply bwA | apply bwN | apply bwD | refine below_set ?_ (IsS119.ge HI0.out)) | exact HB.out)⟩⟩
 case round =>
  clear H'
  try clear c1
  try clear p2
  obtain ⟨x8_1, rfl, HA, HK1, HI0, HK, HB⟩ := hrel
  cases gk with
  | zero => exact absurd HA.out (by simp [spec_l1Pick.l0])
  | succ k1 =>
   have H := HA.out
   clear HA
   simp only [spec_l1Pick.l0] at H
   by_cases c6 : x8_1 < (l1.length : Int)
   ·rw [if_pos c6] at H
    have c6b0 : decide (x8_1 < (l1.length : Int)) = true := decide_eq_true c6
    clear c6
    by_cases c7 : (l1.length : Int) = 0
    ·rw [if_pos c7] at H
     exact absurd H (by simp)
    ·rw [if_neg c7] at H
     have c7b0 : ((l1.length : Int) == 0) = false := beq_eq_false_iff_ne.mpr c7
     have c7b1 : ((l1.length : Int) != 0) = true := bne_iff_ne.mpr c7
     have c7b2 : ¬ (l1 = []) := fun h_ => c7 (by rw [h_]; rfl)
     obtain ⟨ji8, hji8⟩ : ∃ j_ : Int, (Int.tmod (wrap64 (t188 + x8_1)) (l1.length : Int)) = j_ := ⟨_, rfl⟩
     replace H : (if 0 ≤ (ji8) then (if (ji8) < (l1.length : Int) then (if (rd l1 (ji8)) = a2 then (some (ji8, t189)) else (spec_l1Pick.l0 k1 l1 a2 t188 (wrap64 (x8_1 + 1)) s0_0 t189)) else (none)) else (none)) = some (r1, r2) := by first | (rw [hji8] at H; exact H) | (simp only [hji8] at H ⊢; exact H)
     by_cases c9 : 0 ≤ (ji8)
     ·rw [if_pos c9] at H
      have c9b0 : decide (0 ≤ (ji8)) = true := decide_eq_true c9
      clear c9
      by_cases c10 : (ji8) < (l1.length : Int)
      ·rw [if_pos c10] at H
       have c10b0 : decide ((ji8) < (l1.length : Int)) = true := decide_eq_true c10
       clear c10
       by_cases c11 : (rd l1 (ji8)) = a2
       ·rw [if_pos c11] at H
        have c11b0 : ((rd l1 (ji8)) == a2) = true := beq_iff_eq.mpr c11
        have c11b1 : ((rd l1 (ji8)) != a2) = false := bne_eq_false_iff_eq.mpr c11
        clear c11
        simp only [Option.some.injEq, Prod.mk.injEq] at H
        obtain ⟨rfl, rfl⟩ := H
        have p190 : 0 ≤ ((ji8) : Int) := of_decide_eq_true (by first | (with_reducible assumption) | assumption)
        have q190 : (ji8) < (l1.length : Int) := of_decide_eq_true (by first | (with_reducible assumption) | assumption)
        obtain ⟨ad190, e190, hx190_0⟩ := Kd.at_int HR1.out (ji8) p190 q190
        cases e190
        replace hx190_0 := keep_cell HK.out hx190_0 (by first | (rw [add_block]; exact hf1 _ rfl (by omega)) | exact hf1 _ rfl (by omega) | exact hf1 ad190 rfl (by omega))
        replace p190 := eq_true p190
        replace q190 := eq_true q190
        go_wp2
        go_ret
        exact ⟨by first | rfl | (simp [errW_none, errW_some] <;> rfl) | (simp only [← hji8]; first | rfl | (simp [errW_none, errW_some] <;> rfl)) | (simp [*, errW_none, errW_some] <;> rfl), by repeat (first | (with_reducible first | exact HI0.out | apply IsS119.alloc | apply IsS119.drewN | apply IsS119.drew | apply IsS119.set_1) | exact HI0.out), by repeat (first | (with_reducible first | exact HB.out | apply bwA | apply bwN | apply bwD | refine below_set ?_ (IsS119.ge HI0.out)) | exact HB.out), by repeat (first | (with_reducible first | exact HK.out | apply KeepBut.set_ | apply keep_drewN | apply keep_drew | apply keep_alloc) | exact HK.out)⟩
       ·rw [if_neg c11] at H
        have c11b0 : ((rd l1 (ji8)) == a2) = false := beq_eq_false_iff_ne.mpr c11
        have c11b1 : ((rd l1 (ji8)) != a2) = true := bne_iff_ne.mpr c11
        have H' := Aside0.mk H
        clear H
        have p190 : 0 ≤ ((ji8) : Int) := of_decide_eq_true (by first | (with_reducible assumption) | assumption)
        have q190 : (ji8) < (l1.length : Int) := of_decide_eq_true (by first | (with_reducible assumption) | assumption)
        obtain ⟨ad190, e190, hx190_0⟩ := Kd.at_int HR1.out (ji8) p190 q190
        cases e190
        replace hx190_0 := keep_cell HK.out hx190_0 (by first | (rw [add_block]; exact hf1 _ rfl (by omega)) | exact hf1 _ rfl (by omega) | exact hf1 ad190 rfl (by omega))
        replace p190 := eq_true p190
        replace q190 := eq_true q190
        go_wp2
        go_roundg k1
        case measure => have := HK1.out; omega
        case rel => exact ⟨(wrap64 (x8_1 + 1)), (by first | rfl | (simp; done) | (simp [*]; done)), H', ⟨by have := HK1.out; omega⟩, ⟨by repeat (first | (with_reducible first | exact HI0.out | apply IsS119.alloc | apply IsS119.drewN | apply IsS119.drew | apply IsS119.set_1) | exact HI0.out)⟩, ⟨by repeat (first | (with_reducible first | exact HK.out | apply KeepBut.set_ | apply keep_drewN | apply keep_drew | apply keep_alloc) | exact HK.out)⟩, ⟨by repeat (first | (with_reducible first | exact HB.out | apply bwA | apply bwN | apply bwD | refine below_set ?_ (IsS119.ge HI0.out)) | exact HB.out)⟩⟩
      ·rw [if_neg c10] at H
       exact absurd H (by simp)
     ·rw [if_neg c9] at H
      exact absurd H (by simp)
   ·rw [if_neg c6] at H
    have c6b0 : decide (x8_1 < (l1.length : Int)) = false := decide_eq_false c6
    clear c6
    simp only [Option.some.injEq, Prod.mk.injEq] at H
    obtain ⟨rfl, rfl⟩ := H
    go_wp2
    go_ret
    exact ⟨by first | rfl | (simp [errW_none, errW_some] <;> rfl) | (simp [*, errW_none, errW_some] <;> rfl), by repeat (first | (with_reducible first | exact HI0.out | apply IsS119.alloc | apply IsS119.drewN | apply IsS119.drew | apply IsS119.set_1) | exact HI0.out), by repeat (first | (with_reducible first | exact HB.out | apply bwA | apply bwN | apply bwD | refine below_set ?_ (IsS119.ge HI0.out)) | exact HB.out), by repeat (first | (with_reducible first | exact HK.out | apply KeepBut.set_ | apply keep_drewN | apply keep_drew | apply keep_alloc) | exact HK.out)⟩

end Go.Proofs.Ytpfkgmcbogcmoaa.QFnShifted
