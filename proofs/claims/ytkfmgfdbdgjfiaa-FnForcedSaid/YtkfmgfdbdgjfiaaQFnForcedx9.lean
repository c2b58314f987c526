-- Written by a program of this session (mk.py). Lean checks it.
import Derived.Test.YtkfmgfdbdgjfiaaQFnForcedx0
import Derived.Test.YtkfmgfdbdgjfiaaQFnForcedx2
import Derived.Test.YtkfmgfdbdgjfiaaQFnForcedx3
import Derived.Test.YtkfmgfdbdgjfiaaQFnForcedx8
namespace Go.Proofs.Ytkfmgfdbdgjfiaa.QFnForced
open Go.RowKit Go.Proofs.YtkfmgfdbdgjfiaaW.PrintWords Go.Proofs.YtkfmgfdbdgjfiaaW.PrintLast Go.Proofs.YtkfmgfdbdgjfiaaW.PrintMore
attribute [local go_sem] max2_int min2_int max_two min_two max_three min_three max_four min_four   -- for this text's walks alone
set_option linter.unusedVariables false
set_option linter.unusedSimpArgs false

/-! ### impl_litTrue: function 103 -/
def impl_litTrue.f (a0 : Int) (l1 : List Int) : Option (Bool) := (impl_atomOf.f a0).bind fun t324 => (if 0 ≤ (wrap64 (t324 - 1)) then (if (wrap64 (t324 - 1)) < (l1.length : Int) then ((impl_bit.f (decide (a0 > 0))).bind fun t326 => (some ((rd l1 (wrap64 (t324 - 1))) == t326))) else (none)) else (none))
def impl_litTrue.T1 : Bool × List (List Nat × List Nat) := (true, [([], []), ([], []), ([1], [1]), ([2], [2]), ([0, 3], [0, 3]), ([4], [4]), ([], []), ([6], [6]), ([7, 2], [7]), ([5, 8], [5, 8]), ([9, 8, 0, 1, 2, 3, 4, 5, 6, 7, 8, 9], [9])])
def impl_litTrue.B1 : List Nat := [0, 0, 2, 6, 15, 31, 0, 64, 198, 511, 1023]
theorem impl_litTrue.tab1 : rtab .any (opsOf Try.f103 1) = impl_litTrue.T1 := by kernel_rfl
theorem impl_litTrue.bits1 : waitsOk impl_litTrue.T1.2 impl_litTrue.B1 = true := by kernel_rfl
set_option maxHeartbeats 8000000 in
set_option maxRecDepth 100000 in
theorem impl_litTrue.calls (a0 : Int) (A1 : Option Addr) (c1 : Nat) (l1 : List Int) (r : Bool) (w : World) (hr1 : Kd.C (Kd.int .i64) w A1 l1.length l1) (hc1 : l1.length ≤ c1) (h : impl_litTrue.f a0 l1 = some r) :
  Calls Try.prog 103 #[.int .i64 a0, .slice A1 l1.length c1] w fun e w' => e = .returned (.bool r) ∧ Below w.heap.size w w' := by
 have HR1 := Aside0.mk hr1
 have HC1 := Aside0.mk hc1
 clear hr1 hc1
 have HB := Aside0.mk (Below.refl w.heap.size w)
 have H : ((impl_atomOf.f a0).bind fun t324 => (if 0 ≤ (wrap64 (t324 - 1)) then (if (wrap64 (t324 - 1)) < (l1.length : Int) then ((impl_bit.f (decide (a0 > 0))).bind fun t326 => (some ((rd l1 (wrap64 (t324 - 1))) == t326))) else (none)) else (none))) = some r := h
 clear h
 replace H := Option.bind_eq_some_iff.mp H
 obtain ⟨t324, A30, H⟩ := H
 replace H : (if 0 ≤ (wrap64 (t324 - 1)) then (if (wrap64 (t324 - 1)) < (l1.length : Int) then ((impl_bit.f (decide (a0 > 0))).bind fun t326 => (some ((rd l1 (wrap64 (t324 - 1))) == t326))) else (none)) else (none)) = some r := H
 have A3 := Aside0.mk A30
 clear A30
 obtain ⟨ji4, hji4⟩ : ∃ j_ : Int, (wrap64 (t324 - 1)) = j_ := ⟨_, rfl⟩
 replace H : (if 0 ≤ (ji4) then (if (ji4) < (l1.length : Int) then ((impl_bit.f (decide (a0 > 0))).bind fun t326 => (some ((rd l1 (ji4)) == t326))) else (none)) else (none)) = some r := by first | (rw [hji4] at H; exact H) | (simp only [hji4] at H ⊢; exact H)
 (try rw [hji4] at A3)
 have hji4w : (IntKind.i64.wrap (t324 - 1)) = ji4 := (i64_w _).trans hji4
 by_cases c5 : 0 ≤ (ji4)
 ·rw [if_pos c5] at H
  have c5b0 : decide (0 ≤ (ji4)) = true := decide_eq_true c5
  clear c5
  by_cases c6 : (ji4) < (l1.length : Int)
  ·rw [if_pos c6] at H
   have c6b0 : decide ((ji4) < (l1.length : Int)) = true := decide_eq_true c6
   clear c6
   replace H := Option.bind_eq_some_iff.mp H
   obtain ⟨t326, A70, H⟩ := H
   replace H : (some ((rd l1 (ji4)) == t326)) = some r := H
   have A7 := Aside0.mk A70
   clear A70
   obtain rfl := Option.some.inj H
   go_enter Try.func103, Try.ntmps103
   try go_wp2
   have n0_ := Aside0.mk (below_drew1 HB.out)
   clear HB
   have HB := n0_
   clear n0_
   have p325 : 0 ≤ ((ji4) : Int) := of_decide_eq_true (by first | (with_reducible assumption) | assumption)
   have q325 : (ji4) < (l1.length : Int) := of_decide_eq_true (by first | (with_reducible assumption) | assumption)
   obtain ⟨ad325, e325, hx325_0⟩ := Kd.at_int HR1.out (ji4) p325 q325
   have hw325_0 := hx325_0
   cases e325
   try replace hx325_0 := (HB.out.cell (World.block_lt_of_cell? w _ hx325_0)).trans hx325_0
   replace p325 := eq_true p325
   replace q325 := eq_true q325
   refine start_ (n := 11) (S := fun w' => w'.cell? (ad325.add ((ji4)).toNat) = some (.int .i64 (rd l1 (ji4)))) (ds := []) #[false, false, false, false, false, false, false, false, false, false, false] (by kernel_rfl) rfl rfl (((HB.out.cell (World.block_lt_of_cell? w _ hw325_0)).trans hw325_0)) (fun hHeld => ?_); refine with_tabW impl_litTrue.tab1 impl_litTrue.bits1 (fun HT_ HW_ => ?_)
   generalize w.drew = w8 at HB hx325_0 hHeld ⊢
   refine pure_ (i := 0) (N := some 5) (v := ?_) (a' := ?_) #[true, false, false, false, false, false, false, false, false, false, false] rfl rfl (any_of HT_.out (by kernel_rfl)) (fun _ _ _ h => h) (Or.inl ⟨by rfl, ?_⟩) ?_ ?_
   rotate_left
   ·intro w'
    go_simp
    with_reducible rfl
   rotate_left
   ·simp only [Act.put, List.setIfInBounds_toArray, List.set_cons_zero, List.set_cons_succ, i64_w, i32_w]
    rfl
   refine pure_ (i := 1) (N := some 6) (v := ?_) (a' := ?_) #[true, true, false, false, false, false, false, false, false, false, false] rfl rfl (any_of HT_.out (by kernel_rfl)) (fun _ _ _ h => h) (Or.inl ⟨by rfl, ?_⟩) ?_ ?_
   rotate_left
   ·intro w'
    go_simp
    with_reducible rfl
   rotate_left
   ·simp only [Act.put, List.setIfInBounds_toArray, List.set_cons_zero, List.set_cons_succ, i64_w, i32_w]
    rfl
   refine pure_ (i := 6) (N := some 11) (v := ?_) (a' := ?_) #[true, true, false, false, false, false, true, false, false, false, false] rfl rfl (any_of HT_.out (by kernel_rfl)) (fun _ _ _ h => h) (Or.inl ⟨by rfl, ?_⟩) ?_ ?_
   rotate_left
   ·intro w'
    go_simp
    with_reducible rfl
   rotate_left
   ·simp only [Act.put, List.setIfInBounds_toArray, List.set_cons_zero, List.set_cons_succ, i64_w, i32_w]
    rfl
   refine pure_ (i := 7) (N := some 12) (v := ?_) (a' := ?_) #[true, true, false, false, false, false, true, true, false, false, false] rfl rfl (any_of HT_.out (by kernel_rfl)) (fun _ _ _ h => h) (Or.inl ⟨by rfl, ?_⟩) ?_ ?_
   rotate_left
   ·intro w'
    go_simp
    with_reducible rfl
   rotate_left
   ·simp only [Act.put, List.setIfInBounds_toArray, List.set_cons_zero, List.set_cons_succ, i64_w, i32_w]
    rfl
   refine one_ (i := 2) (N := some 7) #[true, true, true, false, false, false, true, true, false, false, false] rfl rfl (one_of HT_.out (by kernel_rfl)) (by decide) (fun K hK => ?_)
   refine goes_ Try.func93 (by kernel_rfl) rfl #[.int .i64 a0] (by rfl) rfl rfl (by (try simp only [List.map_toArray, List.map_cons, List.map_nil]); first | done | rfl | (simp only [List.length_drop, List.length_take]; rfl)) ?_
   with_reducible refine (impl_atomOf.calls a0 t324 _ A3.out).mono ?_
   rintro e w9 ⟨rfl, hb⟩
   refine ⟨_, rfl, ?_⟩
   have n0_ := Aside0.mk (below_step (by repeat (first | (with_reducible first | exact HB.out | apply bwA | apply bwN | apply bwD) | exact HB.out)) hb)
   clear HB
   have HB := n0_
   clear n0_
   (try clear hb)
   (try clear hb2)
   (try clear hk)
   (try clear hi)
   refine hK.out _ _ (((HB.out.cell (World.block_lt_of_cell? w _ hw325_0)).trans hw325_0)) (fun hHeld => ?_)
   clear hK K
   refine norm_ (a' := ?_) ?_ ?_
   rotate_left
   ·show Act.put _ (some 7) _ = _
    simp only [Act.put, List.setIfInBounds_toArray, List.set_cons_zero, List.set_cons_succ, i64_w, i32_w]
    rfl
   refine pure_ (i := 3) (N := some 8) (v := ?_) (a' := ?_) #[true, true, true, true, false, false, true, true, false, false, false] rfl rfl (any_of HT_.out (by kernel_rfl)) (fun _ _ _ h => h) (Or.inl ⟨by rfl, ?_⟩) ?_ ?_
   rotate_left
   ·intro w'
    go_simp
    with_reducible rfl
   rotate_left
   ·simp only [Act.put, List.setIfInBounds_toArray, List.set_cons_zero, List.set_cons_succ, i64_w, i32_w]
    rfl
   refine pure_ (i := 4) (N := some 9) (v := ?_) (a' := ?_) #[true, true, true, true, true, false, true, true, false, false, false] rfl rfl (any_of HT_.out (by kernel_rfl)) (fun _ _ _ h => h) (Or.inl ⟨by rfl, ?_⟩) ?_ ?_
   rotate_left
   ·intro w'
    go_simp
    with_reducible rfl
   rotate_left
   ·simp only [Act.put, List.setIfInBounds_toArray, List.set_cons_zero, List.set_cons_succ, i64_w, i32_w]
    rfl
   refine take_ (i := 5) (N := some 10) (v := ?_) (a' := ?_) #[true, true, true, true, true, true, true, true, false, false, false] rfl rfl (take_ofW HT_.out HW_.out (by kernel_rfl)) (fun _ _ _ h => h) (Or.inl ⟨by rfl, ?_⟩) hHeld ?_ ?_
   rotate_left
   ·intro w' s0
    go_simp
    with_reducible rfl
   rotate_left
   ·simp only [Act.put, List.setIfInBounds_toArray, List.set_cons_zero, List.set_cons_succ, i64_w, i32_w]
    rfl
   refine one_ (i := 8) (N := some 13) #[true, true, true, true, true, true, true, true, true, false, false] rfl rfl (one_of HT_.out (by kernel_rfl)) (by decide) (fun K hK => ?_)
   refine goes_ Try.func94 (by kernel_rfl) rfl #[.bool (decide (a0 > 0))] (by rfl) rfl rfl (by (try simp only [List.map_toArray, List.map_cons, List.map_nil]); first | done | rfl | (simp only [List.length_drop, List.length_take]; rfl)) ?_
   with_reducible refine (impl_bit.calls (decide (a0 > 0)) t326 _ A7.out).mono ?_
   rintro e w' ⟨rfl, ⟨nd, rfl⟩⟩
   refine ⟨_, rfl, ?_⟩
   refine hK.out _ _ (((HB.out.cell (World.block_lt_of_cell? w _ hw325_0)).trans hw325_0)) (fun hHeld => ?_)
   clear hK K
   refine norm_ (a' := ?_) ?_ ?_
   rotate_left
   ·show Act.put _ (some 13) _ = _
    simp only [Act.put, List.setIfInBounds_toArray, List.set_cons_zero, List.set_cons_succ, i64_w, i32_w]
    rfl
   refine pure_ (i := 9) (N := some 14) (v := ?_) (a' := ?_) #[true, true, true, true, true, true, true, true, true, true, false] rfl rfl (any_of HT_.out (by kernel_rfl)) (fun _ _ _ h => h) (Or.inl ⟨by rfl, ?_⟩) ?_ ?_
   rotate_left
   ·intro w'
    go_simp
    with_reducible rfl
   rotate_left
   ·simp only [Act.put, List.setIfInBounds_toArray, List.set_cons_zero, List.set_cons_succ, i64_w, i32_w]
    rfl
   refine pure_ (i := 10) (N := some 4) (v := ?_) (a' := ?_) #[true, true, true, true, true, true, true, true, true, true, true] rfl rfl (any_of HT_.out (by kernel_rfl)) (fun _ _ _ h => h) (Or.inl ⟨by rfl, ?_⟩) ?_ ?_
   rotate_left
   ·intro w'
    go_simp
    with_reducible rfl
   rotate_left
   ·simp only [Act.put, List.setIfInBounds_toArray, List.set_cons_zero, List.set_cons_succ, i64_w, i32_w]
    rfl
   refine done_ (done_of HT_.out (by kernel_rfl)) ?_
   try go_wp2
   go_ret
   exact ⟨by first | rfl | (simp [errW_none, errW_some] <;> rfl) | (simp only [← hji4]; first | rfl | (simp [errW_none, errW_some] <;> rfl)) | (simp [*, errW_none, errW_some] <;> rfl), by repeat (first | (with_reducible first | exact HB.out | apply bwA | apply bwN | apply bwD) | exact HB.out)⟩
  ·rw [if_neg c6] at H
   exact absurd H (by simp)
 ·rw [if_neg c5] at H
  exact absurd H (by simp)

/-! ### impl_trueIn: function 67 -/
def impl_trueIn.p (l1 : List Int) (c : List Int) (i : Int) : Option Bool := impl_litTrue.f (rd c i) l1
theorem impl_trueIn_pred (l1 : List Int) (A1 : Option Addr) (c1 : Nat) (hc1 : l1.length ≤ c1) (gb : Nat) (c : List Int) (w : World) (hr1 : Kd.C (Kd.int .i64) w A1 l1.length l1) (BK : w.heap[gb]? = some (.cells #[.slice A1 l1.length c1] 25 (0, 0))) :
  ∀ (i : Int), 0 ≤ i → i < c.length → ∀ b, impl_trueIn.p l1 c i = some b → ∀ W, Below w.heap.size w W → Calls Try.prog 102 (#[.int .i64 (rd c i)] ++ #[.pointer (some ⟨gb, 0, none⟩)]) W fun e w' => e = .returned (.bool b) ∧ Below W.heap.size W w' := by
 intro i h0 h1 b hb W hW
 have BK1 := blk_below BK hW
 have HC := Aside0.mk (impl_litTrue.calls (rd c i) A1 c1 l1 b W (Kd.C_below hr1 hW) hc1 hb)
 have hcz : W.cell? ⟨gb, 0, none⟩ = some (.slice A1 l1.length c1) := (blk_cell BK1 0).trans rfl
 have hfz := blk_frozen BK1 0
 clear BK BK1 hW h0 h1 hr1 hb
 show Calls Try.prog 102 #[.int .i64 (rd c i), .pointer (some ⟨gb, 0, none⟩)] W _
 generalize rd c i = x at HC ⊢
 cases b
 all_goals
  go_enter Try.func102, Try.ntmps102
  go_wp2_with (go_at_call 103; refine HC.out.mono ?_; rintro e w' ⟨rfl, HB1⟩)
  go_ret
  exact ⟨rfl, by first | exact HB1 | exact Drawn0.below HB1⟩
def impl_trueIn.q (l0 : List (List Int)) (l1 : List Int) (i : Int) : Option Bool := (Copy.idxO (impl_trueIn.p l1 (rd_L1 l0 i)) (rd_L1 l0 i).length 0).bind fun r => some (!(decide (0 ≤ r)))
theorem impl_trueIn_pred2 (l0 : List (List Int)) (l1 : List Int) (A1 : Option Addr) (c1 : Nat) (hc1 : l1.length ≤ c1) (gb : Nat) (w : World) (hr1 : Kd.C (Kd.int .i64) w A1 l1.length l1) (BK : w.heap[gb]? = some (.cells #[.slice A1 l1.length c1] 25 (0, 0))) :
  ∀ (i : Int), 0 ≤ i → i < l0.length → ∀ b, impl_trueIn.q l0 l1 i = some b → ∀ W, Below w.heap.size w W → ∀ A c, Kd.C (Kd.int .i64) W A (rd_L1 l0 i).length (rd_L1 l0 i) → (rd_L1 l0 i).length ≤ c → Calls Try.prog 101 (#[.slice A (rd_L1 l0 i).length c] ++ #[.pointer (some ⟨gb, 0, none⟩)]) W fun e w' => e = .returned (.bool b) ∧ Below W.heap.size W w' := by
 intro i h0 h1 b hb W hW A c hr hc
 have eg : ∀ args w, (callFunc 102 args).run Try.prog w = .ok (.enter 102 args) w := enters_of Try.func102 (by kernel_rfl) rfl
 unfold impl_trueIn.q at hb
 obtain ⟨ri, hi, hb⟩ := Option.bind_eq_some_iff.mp hb
 obtain rfl := Option.some.inj hb
 have BK1 := blk_below BK hW
 have hcz : W.cell? ⟨gb, 0, none⟩ = some (.slice A1 l1.length c1) := (blk_cell BK1 0).trans rfl
 have hfz := blk_frozen BK1 0
 have HC := slices_ContainsFunc_int_int_99.calls 102 #[.pointer (some ⟨gb, 0, none⟩)] eg A c (rd_L1 l0 i) _ ri W hr (impl_trueIn_pred l1 A1 c1 hc1 gb (rd_L1 l0 i) W (Kd.C_below hr1 hW) BK1) hi
 clear BK BK1 hW h0 h1 hr1 hb hr hi eg
 show Calls Try.prog 101 #[.slice A (rd_L1 l0 i).length c, .pointer (some ⟨gb, 0, none⟩)] W _
 generalize rd_L1 l0 i = x at HC ⊢
 generalize decide (0 ≤ ri) = b at HC ⊢
 have HC' := Aside0.mk HC
 clear HC
 cases b
 all_goals
  go_enter Try.func101, Try.ntmps101
  go_wp2_with (go_at_call 99; refine HC'.out.mono ?_; rintro e w' ⟨rfl, HB1⟩)
  go_ret
  exact ⟨by first | rfl | simp, HB1⟩
def impl_trueIn.f (l0 : List (List Int)) (l1 : List Int) : Option Bool := (Copy.idxO (impl_trueIn.q l0 l1) l0.length 0).bind fun r => some (!(decide (0 ≤ r)))
set_option maxHeartbeats 400000 in
theorem impl_trueIn.calls (A0 : Option Addr) (c0 : Nat) (l0 : List (List Int)) (A1 : Option Addr) (c1 : Nat) (l1 : List Int) (r : Bool) (w : World) (hr0 : Kd.C (Kd.slice 3 (Kd.int .i64)) w A0 l0.length l0) (hc0 : l0.length ≤ c0) (hr1 : Kd.C (Kd.int .i64) w A1 l1.length l1) (hc1 : l1.length ≤ c1) (h : impl_trueIn.f l0 l1 = some r) :
  Calls Try.prog 67 #[.slice A0 l0.length c0, .slice A1 l1.length c1] w fun e w' => e = .returned (.bool r) ∧ Below w.heap.size w w' := by
 have EG : ∀ args w, (callFunc 101 args).run Try.prog w = .ok (.enter 101 args) w := enters_of Try.func101 (by kernel_rfl) rfl
 unfold impl_trueIn.f at h
 obtain ⟨ri, hi, h⟩ := Option.bind_eq_some_iff.mp h
 obtain rfl := Option.some.inj h
 have HI2 := Aside0.mk hi
 have HR := Aside0.mk hr0
 have HR1 := Aside0.mk hr1
 have HC1 := Aside0.mk hc1
 clear hi h hr0 hr1 hc1
 generalize hb : decide (0 ≤ ri) = b
 cases b
 all_goals
  have HD := Aside0.mk hb
  clear hb
  go_enter Try.func67, Try.ntmps67
  go_wp2_with (first
   | ((with_reducible refine gate_dst (N := 3) rfl ?_); refine box_event ?hg (N := 3) ?hd (cs := #[.slice A1 l1.length c1]) (t := 25) ?hr ?_; (case hd => rfl); (case hg => rfl); (case hr => first | (go_simp; done) | (go_simp; rfl)); intro gb hg w3 hbox hb; have BK := Aside0.mk hbox; have HB := Aside0.mk hb; have hcz1 : w3.cell? ⟨gb, 0, none⟩ = some (.slice A1 l1.length c1) := (blk_cell BK.out 0).trans rfl; have hfz1 := blk_frozen BK.out 0; clear hg hbox hb)
   | (go_at_call 61; refine (slices_ContainsFunc_int_int_61.calls 101 _ EG A0 c0 l0 _ ri _ (Kd.C_below HR.out HB.out) (impl_trueIn_pred2 l0 l1 A1 c1 HC1.out _ _ (Kd.C_below HR1.out HB.out) BK.out) HI2.out).mono ?_; rw [HD.out]; rintro e w' ⟨rfl, HB1⟩))
  go_ret
  exact ⟨by first | rfl | simp, below_step HB.out HB1⟩

/-! ### impl_TrueIn: function 27 -/
def impl_TrueIn.f (k : Nat) (a0_0 : Int) (l0_1 : List (List Int)) (l1 : List Int) : Option (Bool) := (impl_ClausesValid.f k a0_0 l0_1).bind fun t328 => (if t328 = true then (if (l1.length : Int) = a0_0 then ((impl_bitsValid.f l1).bind fun t329 => (if t329 = true then ((impl_trueIn.f l0_1 l1).bind fun t330 => (some t330)) else (some false))) else (some false)) else (some false))
theorem impl_TrueIn.mono : ∀ a0 a1 a2 k, LeO (impl_TrueIn.f k a0 a1 a2) (impl_TrueIn.f (k + 1) a0 a1 a2) := by
 intro a0 a1 a2 k
 unfold impl_TrueIn.f
 repeat' first
   | (with_reducible exact impl_ClausesValid.mono _ _ _)
   | (with_reducible exact LeO.refl _)
   | (with_reducible exact LeO.none _)
   | (with_reducible refine LeO.ite ?_ ?_)
   | (with_reducible refine LeO.bind ?_ (fun _ => ?_))
   | exact impl_ClausesValid.mono _ _ _
   | exact LeO.none _
   | refine LeO.ite ?_ ?_
   | refine LeO.bind ?_ (fun _ => ?_)
set_option maxHeartbeats 8000000 in
set_option maxRecDepth 100000 in
theorem impl_TrueIn.calls (k : Nat) (a0_0 : Int) (A0_1 : Option Addr) (c0_1 : Nat) (l0_1 : List (List Int)) (A1 : Option Addr) (c1 : Nat) (l1 : List Int) (r : Bool) (w : World) (hr0_1 : Kd.C (Kd.slice 3 (Kd.int .i64)) w A0_1 l0_1.length l0_1) (hc0_1 : l0_1.length ≤ c0_1) (hr1 : Kd.C (Kd.int .i64) w A1 l1.length l1) (hc1 : l1.length ≤ c1) (h : impl_TrueIn.f k a0_0 l0_1 l1 = some r) :
  Calls Try.prog 27 #[.agg #[.int .i64 a0_0, .slice A0_1 l0_1.length c0_1], .slice A1 l1.length c1] w fun e w' => e = .returned (.bool r) ∧ Below w.heap.size w w' := by
 have hu29 := Try.underlying29
 have HR0_1 := Aside0.mk hr0_1
 have HC0_1 := Aside0.mk hc0_1
 clear hr0_1 hc0_1
 have HR1 := Aside0.mk hr1
 have HC1 := Aside0.mk hc1
 clear hr1 hc1
 have HB := Aside0.mk (Below.refl w.heap.size w)
 have H : ((impl_ClausesValid.f k a0_0 l0_1).bind fun t328 => (if t328 = true then (if (l1.length : Int) = a0_0 then ((impl_bitsValid.f l1).bind fun t329 => (if t329 = true then ((impl_trueIn.f l0_1 l1).bind fun t330 => (some t330)) else (some false))) else (some false)) else (some false))) = some r := h
 clear h
 replace H := Option.bind_eq_some_iff.mp H
 obtain ⟨t328, A30, H⟩ := H
 replace H : (if t328 = true then (if (l1.length : Int) = a0_0 then ((impl_bitsValid.f l1).bind fun t329 => (if t329 = true then ((impl_trueIn.f l0_1 l1).bind fun t330 => (some t330)) else (some false))) else (some false)) else (some false)) = some r := H
 have A3 := Aside0.mk A30
 clear A30
 by_cases c4 : t328 = true
 ·subst c4
  have H1 : (if (l1.length : Int) = a0_0 then ((impl_bitsValid.f l1).bind fun t329 => (if t329 = true then ((impl_trueIn.f l0_1 l1).bind fun t330 => (some t330)) else (some false))) else (some false)) = some r := by rw [if_pos rfl] at H; exact H
  clear H
  have H := H1
  clear H1
  by_cases c5 : (l1.length : Int) = a0_0
  ·rw [if_pos c5] at H
   have c5b0 : ((l1.length : Int) == a0_0) = true := beq_iff_eq.mpr c5
   have c5b1 : ((l1.length : Int) != a0_0) = false := bne_eq_false_iff_eq.mpr c5
   clear c5
   replace H := Option.bind_eq_some_iff.mp H
   obtain ⟨t329, A60, H⟩ := H
   replace H : (if t329 = true then ((impl_trueIn.f l0_1 l1).bind fun t330 => (some t330)) else (some false)) = some r := H
   have A6 := Aside0.mk A60
   clear A60
   by_cases c7 : t329 = true
   ·subst c7
    have H1 : ((impl_trueIn.f l0_1 l1).bind fun t330 => (some t330)) = some r := by rw [if_pos rfl] at H; exact H
    clear H
    have H := H1
    clear H1
    replace H := Option.bind_eq_some_iff.mp H
    obtain ⟨t330, A80, H⟩ := H
    replace H : (some t330) = some r := H
    have A8 := Aside0.mk A80
    clear A80
    obtain rfl := Option.some.inj H
    go_enter Try.func27, Try.ntmps27
    go_wp2_with (first | ((with_reducible refine gate_dst (N := 2) rfl ?_); refine box_event ?hg (N := 2) ?hd (cs := #[.int .i64 a0_0, .slice A0_1 l0_1.length c0_1]) (t := 29) ?hr ?_; (case hd => rfl); (case hg => rfl); (case hr => first | (go_simp; done) | (go_simp; rfl)); intro gb327 hg w9 hbox hb; have n0_ := Aside0.mk (below_step (by repeat (first | (with_reducible first | exact HB.out | apply bwA | apply bwN | apply bwD) | exact HB.out)) hb); have n1_ := Aside0.mk (hbox); have n2_ := Aside0.mk ((by rw [hg]; exact (below_size (by repeat (first | (with_reducible first | exact HB.out | apply bwA | apply bwN | apply bwD) | exact HB.out))) : w.heap.size ≤ gb327)); have n3_ := Aside0.mk ((by rw [hg]; exact (below_size (by repeat (first | (with_reducible first | exact HB.out | apply bwA | apply bwN | apply bwD) | exact HB.out))) : w.heap.size ≤ gb327)); clear HB; have HB := n0_; have BK327 := n1_; have GW327 := n2_; have GE327 := n3_; clear n0_ n1_ n2_ n3_; clear hb hbox hg; have hcz10_0 : w9.cell? ⟨gb327, 0, none⟩ = some (.int .i64 a0_0) := (blk_cell BK327.out 0).trans rfl; have hcz10_1 : w9.cell? ⟨gb327, 1, none⟩ = some (.slice A0_1 l0_1.length c0_1) := (blk_cell BK327.out 1).trans rfl; have hfz10_0 := blk_frozen BK327.out 0; have hfz10_1 := blk_frozen BK327.out 1) | ((with_reducible refine gate_callee (f := 24) rfl ?_); refine goesL_ (some 6) rfl rfl Try.func24 (by kernel_rfl) rfl #[.agg #[.int .i64 a0_0, .slice A0_1 l0_1.length c0_1]] rfl (by (try simp only [List.map_toArray, List.map_cons, List.map_nil]); first | done | rfl | (simp only [List.length_drop, List.length_take]; rfl)) ?_; (with_reducible refine (impl_ClausesValid.calls k a0_0 _ _ l0_1 true _ ?side1 ?side2 A3.out).mono ?_); (case side1 => repeat (first | exact (Kd.C_below HR0_1.out HB.out) | (with_reducible refine Kd.C_alloc ?_ _) | (with_reducible refine Kd.C_drewN ?_ _) | (with_reducible refine Kd.C_drew ?_))); (case side2 => exact HC0_1.out); rintro e w11 ⟨rfl, hb⟩; refine ⟨_, rfl, ?_⟩; have n0_ := Aside0.mk (blk_below (g := gb327) (o := .cells #[.int .i64 a0_0, .slice A0_1 l0_1.length c0_1] 29 (0, 0)) (by (with_reducible repeat (first | refine blk_drewN ?_ _ | refine blk_drew ?_ | refine blk_alloc ?_ _)); exact BK327.out) hb); have n1_ := Aside0.mk (below_step (by repeat (first | (with_reducible first | exact HB.out | apply bwA | apply bwN | apply bwD | refine below_set ?_ GE327.out) | exact HB.out)) hb); clear BK327; clear HB; have BK327 := n0_; have HB := n1_; clear n0_ n1_; (try clear hb); (try clear hb2); (try clear hk); (try clear hi); have hcz12_0 : w11.cell? ⟨gb327, 0, none⟩ = some (.int .i64 a0_0) := (blk_cell BK327.out 0).trans rfl; have hcz12_1 : w11.cell? ⟨gb327, 1, none⟩ = some (.slice A0_1 l0_1.length c0_1) := (blk_cell BK327.out 1).trans rfl; have hfz12_0 := blk_frozen BK327.out 0; have hfz12_1 := blk_frozen BK327.out 1) | (go_at_call 66; (with_reducible refine (impl_bitsValid.calls _ _ l1 true _ ?side1 ?side2 A6.out).mono ?_); (case side1 => repeat (first | exact (Kd.C_below HR1.out HB.out) | (with_reducible refine Kd.C_alloc ?_ _) | (with_reducible refine Kd.C_drewN ?_ _) | (with_reducible refine Kd.C_drew ?_))); (case side2 => exact HC1.out); rintro e w13 ⟨rfl, hb⟩; have n0_ := Aside0.mk (blk_below (g := gb327) (o := .cells #[.int .i64 a0_0, .slice A0_1 l0_1.length c0_1] 29 (0, 0)) (by (with_reducible repeat (first | refine blk_drewN ?_ _ | refine blk_drew ?_ | refine blk_alloc ?_ _)); exact BK327.out) hb); have n1_ := Aside0.mk (below_step (by repeat (first | (with_reducible first | exact HB.out | apply bwA | apply bwN | apply bwD | refine below_set ?_ GE327.out) | exact HB.out)) hb); clear BK327; clear HB; have BK327 := n0_; have HB := n1_; clear n0_ n1_; (try clear hb); (try clear hb2); (try clear hk); (try clear hi); have hcz14_0 : w13.cell? ⟨gb327, 0, none⟩ = some (.int .i64 a0_0) := (blk_cell BK327.out 0).trans rfl; have hcz14_1 : w13.cell? ⟨gb327, 1, none⟩ = some (.slice A0_1 l0_1.length c0_1) := (blk_cell BK327.out 1).trans rfl; have hfz14_0 := blk_frozen BK327.out 0; have hfz14_1 := blk_frozen BK327.out 1) | (go_at_call 67; (with_reducible refine (impl_trueIn.calls _ _ l0_1 _ _ l1 t330 _ ?side1 ?side2 ?side3 ?side4 A8.out).mono ?_); (case side1 => repeat (first | exact (Kd.C_below HR0_1.out HB.out) | (with_reducible refine Kd.C_alloc ?_ _) | (with_reducible refine Kd.C_drewN ?_ _) | (with_reducible refine Kd.C_drew ?_))); (case side2 => exact HC0_1.out); (case side3 => repeat (first | exact (Kd.C_below HR1.out HB.out) | (with_reducible refine Kd.C_alloc ?_ _) | (with_reducible refine Kd.C_drewN ?_ _) | (with_reducible refine Kd.C_drew ?_))); (case side4 => exact HC1.out); rintro e w15 ⟨rfl, hb⟩; have n0_ := Aside0.mk (blk_below (g := gb327) (o := .cells #[.int .i64 a0_0, .slice A0_1 l0_1.length c0_1] 29 (0, 0)) (by (with_reducible repeat (first | refine blk_drewN ?_ _ | refine blk_drew ?_ | refine blk_alloc ?_ _)); exact BK327.out) hb); have n1_ := Aside0.mk (below_step (by repeat (first | (with_reducible first | exact HB.out | apply bwA | apply bwN | apply bwD | refine below_set ?_ GE327.out) | exact HB.out)) hb); clear BK327; clear HB; have BK327 := n0_; have HB := n1_; clear n0_ n1_; (try clear hb); (try clear hb2); (try clear hk); (try clear hi)))
    go_ret
    exact ⟨by first | rfl | (simp [errW_none, errW_some] <;> rfl) | (simp [*, errW_none, errW_some] <;> rfl), by repeat (first | (with_reducible first | exact HB.out | apply bwA | apply bwN | apply bwD | refine below_set ?_ GE327.out) | exact HB.out)⟩
   ·replace c7 := Bool.eq_false_iff.mpr c7
    subst c7
    have H1 : (some false) = some r := by rw [if_neg (show ¬ (false = true) by decide)] at H; exact H
    clear H
    have H := H1
    clear H1
    obtain rfl := Option.some.inj H
    go_enter Try.func27, Try.ntmps27
    go_wp2_with (first | ((with_reducible refine gate_dst (N := 2) rfl ?_); refine box_event ?hg (N := 2) ?hd (cs := #[.int .i64 a0_0, .slice A0_1 l0_1.length c0_1]) (t := 29) ?hr ?_; (case hd => rfl); (case hg => rfl); (case hr => first | (go_simp; done) | (go_simp; rfl)); intro gb327 hg w16 hbox hb; have n0_ := Aside0.mk (below_step (by repeat (first | (with_reducible first | exact HB.out | apply bwA | apply bwN | apply bwD) | exact HB.out)) hb); have n1_ := Aside0.mk (hbox); have n2_ := Aside0.mk ((by rw [hg]; exact (below_size (by repeat (first | (with_reducible first | exact HB.out | apply bwA | apply bwN | apply bwD) | exact HB.out))) : w.heap.size ≤ gb327)); have n3_ := Aside0.mk ((by rw [hg]; exact (below_size (by repeat (first | (with_reducible first | exact HB.out | apply bwA | apply bwN | apply bwD) | exact HB.out))) : w.heap.size ≤ gb327)); clear HB; have HB := n0_; have BK327 := n1_; have GW327 := n2_; have GE327 := n3_; clear n0_ n1_ n2_ n3_; clear hb hbox hg; have hcz17_0 : w16.cell? ⟨gb327, 0, none⟩ = some (.int .i64 a0_0) := (blk_cell BK327.out 0).trans rfl; have hcz17_1 : w16.cell? ⟨gb327, 1, none⟩ = some (.slice A0_1 l0_1.length c0_1) := (blk_cell BK327.out 1).trans rfl; have hfz17_0 := blk_frozen BK327.out 0; have hfz17_1 := blk_frozen BK327.out 1) | ((with_reducible refine gate_callee (f := 24) rfl ?_); refine goesL_ (some 6) rfl rfl Try.func24 (by kernel_rfl) rfl #[.agg #[.int .i64 a0_0, .slice A0_1 l0_1.length c0_1]] rfl (by (try simp only [List.map_toArray, List.map_cons, List.map_nil]); first | done | rfl | (simp only [List.length_drop, List.length_take]; rfl)) ?_; (with_reducible refine (impl_ClausesValid.calls k a0_0 _ _ l0_1 true _ ?side1 ?side2 A3.out).mono ?_); (case side1 => repeat (first | exact (Kd.C_below HR0_1.out HB.out) | (with_reducible refine Kd.C_alloc ?_ _) | (with_reducible refine Kd.C_drewN ?_ _) | (with_reducible refine Kd.C_drew ?_))); (case side2 => exact HC0_1.out); rintro e w18 ⟨rfl, hb⟩; refine ⟨_, rfl, ?_⟩; have n0_ := Aside0.mk (blk_below (g := gb327) (o := .cells #[.int .i64 a0_0, .slice A0_1 l0_1.length c0_1] 29 (0, 0)) (by (with_reducible repeat (first | refine blk_drewN ?_ _ | refine blk_drew ?_ | refine blk_alloc ?_ _)); exact BK327.out) hb); have n1_ := Aside0.mk (below_step (by repeat (first | (with_reducible first | exact HB.out | apply bwA | apply bwN | apply bwD | refine below_set ?_ GE327.out) | exact HB.out)) hb); clear BK327; clear HB; have BK327 := n0_; have HB := n1_; clear n0_ n1_; (try clear hb); (try clear hb2); (try clear hk); (try clear hi); have hcz19_0 : w18.cell? ⟨gb327, 0, none⟩ = some (.int .i64 a0_0) := (blk_cell BK327.out 0).trans rfl; have hcz19_1 : w18.cell? ⟨gb327, 1, none⟩ = some (.slice A0_1 l0_1.length c0_1) := (blk_cell BK327.out 1).trans rfl; have hfz19_0 := blk_frozen BK327.out 0; have hfz19_1 := blk_frozen BK327.out 1) | (go_at_call 66; (with_reducible refine (impl_bitsValid.calls _ _ l1 false _ ?side1 ?side2 A6.out).mono ?_); (case side1 => repeat (first | exact (Kd.C_below HR1.out HB.out) | (with_reducible refine Kd.C_alloc ?_ _) | (with_reducible refine Kd.C_drewN ?_ _) | (with_reducible refine Kd.C_drew ?_))); (case side2 => exact HC1.out); rintro e w20 ⟨rfl, hb⟩; have n0_ := Aside0.mk (blk_below (g := gb327) (o := .cells #[.int .i64 a0_0, .slice A0_1 l0_1.length c0_1] 29 (0, 0)) (by (with_reducible repeat (first | refine blk_drewN ?_ _ | refine blk_drew ?_ | refine blk_alloc ?_ _)); exact BK327.out) hb); have n1_ := Aside0.mk (below_step (by repeat (first | (with_reducible first | exact HB.out | apply bwA | apply bwN | apply bwD | refine below_set ?_ GE327.out) | exact HB.out)) hb); clear BK327; clear HB; have BK327 := n0_; have HB := n1_; clear n0_ n1_; (try clear hb); (try clear hb2); (try clear hk); (try clear hi)))
    go_ret
    exact ⟨by first | rfl | (simp [errW_none, errW_some] <;> rfl) | (simp [*, errW_none, errW_some] <;> rfl), by repeat (first | (with_reducible first | exact HB.out | apply bwA | apply bwN | apply bwD | refine below_set ?_ GE327.out) | exact HB.out)⟩
  ·rw [if_neg c5] at H
   have c5b0 : ((l1.length : Int) == a0_0) = false := beq_eq_false_iff_ne.mpr c5
   have c5b1 : ((l1.length : Int) != a0_0) = true := bne_iff_ne.mpr c5
   obtain rfl := Option.some.inj H
   go_enter Try.func27, Try.ntmps27
   go_wp2_with (first | ((with_reducible refine gate_dst (N := 2) rfl ?_); refine box_event ?hg (N := 2) ?hd (cs := #[.int .i64 a0_0, .slice A0_1 l0_1.length c0_1]) (t := 29) ?hr ?_; (case hd => rfl); (case hg => rfl); (case hr => first | (go_simp; done) | (go_simp; rfl)); intro gb327 hg w21 hbox hb; have n0_ := Aside0.mk (below_step (by repeat (first | (with_reducible first | exact HB.out | apply bwA | apply bwN | apply bwD) | exact HB.out)) hb); have n1_ := Aside0.mk (hbox); have n2_ := Aside0.mk ((by rw [hg]; exact (below_size (by repeat (first | (with_reducible first | exact HB.out | apply bwA | apply bwN | apply bwD) | exact HB.out))) : w.heap.size ≤ gb327)); have n3_ := Aside0.mk ((by rw [hg]; exact (below_size (by repeat (first | (with_reducible first | exact HB.out | apply bwA | apply bwN | apply bwD) | exact HB.out))) : w.heap.size ≤ gb327)); clear HB; have HB := n0_; have BK327 := n1_; have GW327 := n2_; have GE327 := n3_; clear n0_ n1_ n2_ n3_; clear hb hbox hg; have hcz22_0 : w21.cell? ⟨gb327, 0, none⟩ = some (.int .i64 a0_0) := (blk_cell BK327.out 0).trans rfl; have hcz22_1 : w21.cell? ⟨gb327, 1, none⟩ = some (.slice A0_1 l0_1.length c0_1) := (blk_cell BK327.out 1).trans rfl; have hfz22_0 := blk_frozen BK327.out 0; have hfz22_1 := blk_frozen BK327.out 1) | ((with_reducible refine gate_callee (f := 24) rfl ?_); refine goesL_ (some 6) rfl rfl Try.func24 (by kernel_rfl) rfl #[.agg #[.int .i64 a0_0, .slice A0_1 l0_1.length c0_1]] rfl (by (try simp only [List.map_toArray, List.map_cons, List.map_nil]); first | done | rfl | (simp only [List.length_drop, List.length_take]; rfl)) ?_; (with_reducible refine (impl_ClausesValid.calls k a0_0 _ _ l0_1 true _ ?side1 ?side2 A3.out).mono ?_); (case side1 => repeat (first | exact (Kd.C_below HR0_1.out HB.out) | (with_reducible refine Kd.C_alloc ?_ _) | (with_reducible refine Kd.C_drewN ?_ _) | (with_reducible refine Kd.C_drew ?_))); (case side2 => exact HC0_1.out); rintro e w23 ⟨rfl, hb⟩; refine ⟨_, rfl, ?_⟩; have n0_ := Aside0.mk (blk_below (g := gb327) (o := .cells #[.int .i64 a0_0, .slice A0_1 l0_1.length c0_1] 29 (0, 0)) (by (with_reducible repeat (first | refine blk_drewN ?_ _ | refine blk_drew ?_ | refine blk_alloc ?_ _)); exact BK327.out) hb); have n1_ := Aside0.mk (below_step (by repeat (first | (with_reducible first | exact HB.out | apply bwA | apply bwN | apply bwD | refine below_set ?_ GE327.out) | exact HB.out)) hb); clear BK327; clear HB; have BK327 := n0_; have HB := n1_; clear n0_ n1_; (try clear hb); (try clear hb2); (try clear hk); (try clear hi); have hcz24_0 : w23.cell? ⟨gb327, 0, none⟩ = some (.int .i64 a0_0) := (blk_cell BK327.out 0).trans rfl; have hcz24_1 : w23.cell? ⟨gb327, 1, none⟩ = some (.slice A0_1 l0_1.length c0_1) := (blk_cell BK327.out 1).trans rfl; have hfz24_0 := blk_frozen BK327.out 0; have hfz24_1 := blk_frozen BK327.out 1))
   go_ret
   exact ⟨by first | rfl | (simp [errW_none, errW_some] <;> rfl) | (simp [*, errW_none, errW_some] <;> rfl), by repeat (first | (with_reducible first | exact HB.out | apply bwA | apply bwN | apply bwD | refine below_set ?_ GE327.out) | exact HB.out)⟩
 ·replace c4 := Bool.eq_false_iff.mpr c4
  subst c4
  have H1 : (some false) = some r := by rw [if_neg (show ¬ (false = true) by decide)] at H; exact H
  clear H
  have H := H1
  clear H1
  obtain rfl := Option.some.inj H
  go_enter Try.func27, Try.ntmps27
  go_wp2_with (first | ((with_reducible refine gate_dst (N := 2) rfl ?_); refine box_event ?hg (N := 2) ?hd (cs := #[.int .i64 a0_0, .slice A0_1 l0_1.length c0_1]) (t := 29) ?hr ?_; (case hd => rfl); (case hg => rfl); (case hr => first | (go_simp; done) | (go_simp; rfl)); intro gb327 hg w25 hbox hb; have n0_ := Aside0.mk (below_step (by repeat (first | (with_reducible first | exact HB.out | apply bwA | apply bwN | apply bwD) | exact HB.out)) hb); have n1_ := Aside0.mk (hbox); have n2_ := Aside0.mk ((by rw [hg]; exact (below_size (by repeat (first | (with_reducible first | exact HB.out | apply bwA | apply bwN | apply bwD) | exact HB.out))) : w.heap.size ≤ gb327)); have n3_ := Aside0.mk ((by rw [hg]; exact (below_size (by repeat (first | (with_reducible first | exact HB.out | apply bwA | apply bwN | apply bwD) | exact HB.out))) : w.heap.size ≤ gb327)); clear HB; have HB := n0_; have BK327 := n1_; have GW327 := n2_; have GE327 := n3_; clear n0_ n1_ n2_ n3_; clear hb hbox hg; have hcz26_0 : w25.cell? ⟨gb327, 0, none⟩ = some (.int .i64 a0_0) := (blk_cell BK327.out 0).trans rfl; have hcz26_1 : w25.cell? ⟨gb327, 1, none⟩ = some (.slice A0_1 l0_1.length c0_1) := (blk_cell BK327.out 1).trans rfl; have hfz26_0 := blk_frozen BK327.out 0; have hfz26_1 := blk_frozen BK327.out 1) | ((with_reducible refine gate_callee (f := 24) rfl ?_); refine goesL_ (some 6) rfl rfl Try.func24 (by kernel_rfl) rfl #[.agg #[.int .i64 a0_0, .slice A0_1 l0_1.length c0_1]] rfl (by (try simp only [List.map_toArray, List.map_cons, List.map_nil]); first | done | rfl | (simp only [List.length_drop, List.length_take]; rfl)) ?_; (with_reducible refine (impl_ClausesValid.calls k a0_0 _ _ l0_1 false _ ?side1 ?side2 A3.out).mono ?_); (case side1 => repeat (first | exact (Kd.C_below HR0_1.out HB.out) | (with_reducible refine Kd.C_alloc ?_ _) | (with_reducible refine Kd.C_drewN ?_ _) | (with_reducible refine Kd.C_drew ?_))); (case side2 => exact HC0_1.out); rintro e w27 ⟨rfl, hb⟩; refine ⟨_, rfl, ?_⟩; have n0_ := Aside0.mk (blk_below (g := gb327) (o := .cells #[.int .i64 a0_0, .slice A0_1 l0_1.length c0_1] 29 (0, 0)) (by (with_reducible repeat (first | refine blk_drewN ?_ _ | refine blk_drew ?_ | refine blk_alloc ?_ _)); exact BK327.out) hb); have n1_ := Aside0.mk (below_step (by repeat (first | (with_reducible first | exact HB.out | apply bwA | apply bwN | apply bwD | refine below_set ?_ GE327.out) | exact HB.out)) hb); clear BK327; clear HB; have BK327 := n0_; have HB := n1_; clear n0_ n1_; (try clear hb); (try clear hb2); (try clear hk); (try clear hi)))
  go_ret
  exact ⟨by first | rfl | (simp [errW_none, errW_some] <;> rfl) | (simp [*, errW_none, errW_some] <;> rfl), by repeat (first | (with_reducible first | exact HB.out | apply bwA | apply bwN | apply bwD | refine below_set ?_ GE327.out) | exact HB.out)⟩

end Go.Proofs.Ytkfmgfdbdgjfiaa.QFnForced
