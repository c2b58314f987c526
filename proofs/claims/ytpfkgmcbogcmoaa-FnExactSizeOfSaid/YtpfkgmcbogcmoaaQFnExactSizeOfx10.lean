-- Written by a program of this session (mk.py). Lean checks it.
import Derived.Test.YtpfkgmcbogcmoaaQFnExactSizeOfx0
import Derived.Test.YtpfkgmcbogcmoaaQFnExactSizeOfx9
namespace Go.Proofs.Ytpfkgmcbogcmoaa.QFnExactSizeOf
open Go.RowKit Go.Proofs.YtpfkgmcbogcmoaaW.PrintWords Go.Proofs.YtpfkgmcbogcmoaaW.PrintLast Go.Proofs.YtpfkgmcbogcmoaaW.PrintMore
attribute [local go_sem] max2_int min2_int max_two min_two max_three min_three max_four min_four   -- for this text's walks alone
set_option linter.unusedVariables false
set_option linter.unusedSimpArgs false

/-! ### laws_eqVarS: function 81 -/
def laws_eqVarS.l0 : Nat → List (S99) → List (S99) → Int → Option (Bool)
 | 0, _, _, _ => none
 | k + 1, x0, x1, x5 => if x5 < (x0.length : Int) then (if 0 ≤ x5 then (if x5 < (x1.length : Int) then ((laws_eqVar.f ((rd_T99 x0 x5).f0) ((rd_T99 x0 x5).f1) ((rd_T99 x0 x5).f2) ((rd_T99 x1 x5).f0) ((rd_T99 x1 x5).f1) ((rd_T99 x1 x5).f2)).bind fun t283 => (if t283 = true then (laws_eqVarS.l0 k x0 x1 (wrap64 (x5 + 1))) else (some false))) else (none)) else (none)) else (some true)
def laws_eqVarS.f (k : Nat) (l0 : List (S99)) (l1 : List (S99)) : Option (Bool) := if (l0.length : Int) = (l1.length : Int) then (laws_eqVarS.l0 k l0 l1 0) else (some false)
theorem laws_eqVarS.mono_l : ∀ k, (∀ y0 y1 y2, LeO (laws_eqVarS.l0 k y0 y1 y2) (laws_eqVarS.l0 (k + 1) y0 y1 y2))
 | 0 => fun _ _ _ r h => by simp [laws_eqVarS.l0] at h
 | k + 1 => by
  have ih0 := laws_eqVarS.mono_l k
  ·intro y0 y1 y2
   unfold laws_eqVarS.l0
   repeat' first
   | (with_reducible exact ih0 _ _ _)
   | (with_reducible exact LeO.refl _)
   | (with_reducible exact LeO.none _)
   | (with_reducible refine LeO.ite ?_ ?_)
   | (with_reducible refine LeO.bind ?_ (fun _ => ?_))
   | exact ih0 _ _ _
   | exact LeO.none _
   | refine LeO.ite ?_ ?_
   | refine LeO.bind ?_ (fun _ => ?_)
theorem laws_eqVarS.mono : ∀ a0 a1 k, LeO (laws_eqVarS.f k a0 a1) (laws_eqVarS.f (k + 1) a0 a1) := by
 intro a0 a1 k
 have ih0 := laws_eqVarS.mono_l k
 unfold laws_eqVarS.f
 repeat' first
   | (with_reducible exact ih0 _ _ _)
   | (with_reducible exact LeO.refl _)
   | (with_reducible exact LeO.none _)
   | (with_reducible refine LeO.ite ?_ ?_)
   | (with_reducible refine LeO.bind ?_ (fun _ => ?_))
   | exact ih0 _ _ _
   | exact LeO.none _
   | refine LeO.ite ?_ ?_
   | refine LeO.bind ?_ (fun _ => ?_)
def laws_eqVarS.T6 : Bool × List (List Nat × List Nat) := (true, [([], []), ([], []), ([0, 1], [0, 1]), ([2], [2]), ([], []), ([], []), ([4, 5], [4, 5]), ([6], [6]), ([3, 7], [3, 7]), ([8], [8])])
def laws_eqVarS.B6 : List Nat := [0, 0, 3, 7, 0, 0, 48, 112, 255, 511]
theorem laws_eqVarS.tab6 : rtab .any (opsOf Try.f81 6) = laws_eqVarS.T6 := by kernel_rfl
theorem laws_eqVarS.bits6 : waitsOk laws_eqVarS.T6.2 laws_eqVarS.B6 = true := by kernel_rfl
set_option maxHeartbeats 8000000 in
set_option maxRecDepth 100000 in
theorem laws_eqVarS.calls (k : Nat) (A0 : Option Addr) (c0 : Nat) (l0 : List (S99)) (A1 : Option Addr) (c1 : Nat) (l1 : List (S99)) (r : Bool) (w : World) (hr0 : Kd.C k99 w A0 l0.length l0) (hc0 : l0.length ≤ c0) (hr1 : Kd.C k99 w A1 l1.length l1) (hc1 : l1.length ≤ c1) (h : laws_eqVarS.f k l0 l1 = some r) :
  Calls Try.prog 81 #[.slice A0 l0.length c0, .slice A1 l1.length c1] w fun e w' => e = .returned (.bool r) ∧ Below w.heap.size w w' := by
 have hu99 := Try.underlying99
 have HR0 := Aside0.mk hr0
 have HC0 := Aside0.mk hc0
 clear hr0 hc0
 have HR1 := Aside0.mk hr1
 have HC1 := Aside0.mk hc1
 clear hr1 hc1
 have HB := Aside0.mk (Below.refl w.heap.size w)
 have H : (if (l0.length : Int) = (l1.length : Int) then (laws_eqVarS.l0 k l0 l1 0) else (some false)) = some r := h
 clear h
 by_cases c3 : (l0.length : Int) = (l1.length : Int)
 ·rw [if_pos c3] at H
  have c3b0 : ((l0.length : Int) == (l1.length : Int)) = true := beq_iff_eq.mpr c3
  have c3b1 : ((l0.length : Int) != (l1.length : Int)) = false := bne_eq_false_iff_eq.mpr c3
  have c3b2 : (l0.length == l1.length) = true := by first | simpa using c3 | (simp at c3 ⊢; omega)
  clear c3
  have H' := Aside0.mk H
  clear H
  go_enter Try.func81, Try.ntmps81
  go_wp2
  go_loopg [5] k (fun kq v5 w' => ∃ (x5_1 : Int), v5 = .int .i64 x5_1 ∧ Aside0 (laws_eqVarS.l0 kq l0 l1 x5_1 = some r) ∧ Aside0 (kq ≤ k) ∧ Aside0 (Below w.heap.size w w'))
  case atStart => exact ⟨(0), rsd, H', ⟨Nat.le_refl _⟩, ⟨by repeat (first | (with_reducible first | exact HB.out | apply bwA | apply bwN | apply bwD) | exact HB.out)⟩⟩
  case round =>
   clear H'
   try clear c1
   try clear p2
   try clear c3
   try clear c3b0
   try clear c3b1
   try clear c3b2
   obtain ⟨x5_1, rfl, HA, HK1, HB⟩ := hrel
   cases gk with
   | zero => exact absurd HA.out (by simp [laws_eqVarS.l0])
   | succ k1 =>
    have H := HA.out
    clear HA
    simp only [laws_eqVarS.l0] at H
    by_cases c4 : x5_1 < (l0.length : Int)
    ·rw [if_pos c4] at H
     have c4b0 : decide (x5_1 < (l0.length : Int)) = true := decide_eq_true c4
     clear c4
     by_cases c5 : 0 ≤ x5_1
     ·rw [if_pos c5] at H
      have c5b0 : decide (0 ≤ x5_1) = true := decide_eq_true c5
      clear c5
      by_cases c6 : x5_1 < (l1.length : Int)
      ·rw [if_pos c6] at H
       have c6b0 : decide (x5_1 < (l1.length : Int)) = true := decide_eq_true c6
       clear c6
       replace H := Option.bind_eq_some_iff.mp H
       obtain ⟨t283, A70, H⟩ := H
       replace H : (if t283 = true then (laws_eqVarS.l0 k1 l0 l1 (wrap64 (x5_1 + 1))) else (some false)) = some r := H
       have A7 := Aside0.mk A70
       clear A70
       by_cases c8 : t283 = true
       ·subst c8
        have H1 : (laws_eqVarS.l0 k1 l0 l1 (wrap64 (x5_1 + 1))) = some r := by rw [if_pos rfl] at H; exact H
        clear H
        have H := H1
        clear H1
        have H' := Aside0.mk H
        clear H
        try go_wp2
        have n0_ := Aside0.mk (below_drew1 HB.out)
        clear HB
        have HB := n0_
        clear n0_
        have p281 : 0 ≤ (x5_1 : Int) := oda
        have q281 : x5_1 < (l0.length : Int) := oda
        obtain ⟨ad281, e281, hx281_0, hx281_1, hx281_2⟩ := at_T99 HR0.out x5_1 p281 q281
        have hw281_2 := hx281_2
        have hw281_1 := hx281_1
        have hw281_0 := hx281_0
        cases e281
        try replace hx281_0 := bct HB.out hx281_0
        try replace hx281_1 := bct HB.out hx281_1
        try replace hx281_2 := bct HB.out hx281_2
        replace p281 := eq_true p281
        replace q281 := eq_true q281
        have p282 : 0 ≤ (x5_1 : Int) := oda
        have q282 : x5_1 < (l1.length : Int) := oda
        obtain ⟨ad282, e282, hx282_0, hx282_1, hx282_2⟩ := at_T99 HR1.out x5_1 p282 q282
        have hw282_2 := hx282_2
        have hw282_1 := hx282_1
        have hw282_0 := hx282_0
        cases e282
        try replace hx282_0 := bct HB.out hx282_0
        try replace hx282_1 := bct HB.out hx282_1
        try replace hx282_2 := bct HB.out hx282_2
        replace p282 := eq_true p282
        replace q282 := eq_true q282
        refine start_ (n := 10) (S := fun w' => w'.cell? (ad281.add ((x5_1).toNat * 3)) = some (.int .i64 ((rd_T99 l0 x5_1).f0)) ∧ w'.cell? ⟨(ad281.add ((x5_1).toNat * 3)).block, (ad281.add ((x5_1).toNat * 3)).off + 1, none⟩ = some (.int .i64 ((rd_T99 l0 x5_1).f1)) ∧ w'.cell? ⟨(ad281.add ((x5_1).toNat * 3)).block, (ad281.add ((x5_1).toNat * 3)).off + 2, none⟩ = some (.int .i64 ((rd_T99 l0 x5_1).f2)) ∧ w'.cell? (ad282.add ((x5_1).toNat * 3)) = some (.int .i64 ((rd_T99 l1 x5_1).f0)) ∧ w'.cell? ⟨(ad282.add ((x5_1).toNat * 3)).block, (ad282.add ((x5_1).toNat * 3)).off + 1, none⟩ = some (.int .i64 ((rd_T99 l1 x5_1).f1)) ∧ w'.cell? ⟨(ad282.add ((x5_1).toNat * 3)).block, (ad282.add ((x5_1).toNat * 3)).off + 2, none⟩ = some (.int .i64 ((rd_T99 l1 x5_1).f2))) (ds := []) #[false, false, false, false, false, false, false, false, false, false] (by kernel_rfl) rfl rfl ⟨((HB.out.cell (World.block_lt_of_cell? w _ hw281_0)).trans hw281_0), ((HB.out.cell (World.block_lt_of_cell? w _ hw281_1)).trans hw281_1), ((HB.out.cell (World.block_lt_of_cell? w _ hw281_2)).trans hw281_2), ((HB.out.cell (World.block_lt_of_cell? w _ hw282_0)).trans hw282_0), ((HB.out.cell (World.block_lt_of_cell? w _ hw282_1)).trans hw282_1), ((HB.out.cell (World.block_lt_of_cell? w _ hw282_2)).trans hw282_2)⟩ (fun hHeld => ?_); refine with_tabW laws_eqVarS.tab6 laws_eqVarS.bits6 (fun HT_ HW_ => ?_)
        generalize wr.drew = w9 at HB hx281_0 hx281_1 hx281_2 hx282_0 hx282_1 hx282_2 hHeld ⊢
        refine pure_ (i := 0) (N := some 17) (v := ?_) (a' := ?_) #[true, false, false, false, false, false, false, false, false, false] rfl rfl (any_of HT_.out (by kernel_rfl)) (fun _ _ _ h => h) (Or.inl ⟨by rfl, ?_⟩) ?_ ?_
        rotate_left
        ·intro w'
         go_simp
         with_reducible rfl
        rotate_left
        ·simp only [Act.put, List.setIfInBounds_toArray, List.set_cons_zero, List.set_cons_succ, i64_w, i32_w]
         rfl
        refine pure_ (i := 1) (N := some 18) (v := ?_) (a' := ?_) #[true, true, false, false, false, false, false, false, false, false] rfl rfl (any_of HT_.out (by kernel_rfl)) (fun _ _ _ h => h) (Or.inl ⟨by rfl, ?_⟩) ?_ ?_
        rotate_left
        ·intro w'
         go_simp
         with_reducible rfl
        rotate_left
        ·simp only [Act.put, List.setIfInBounds_toArray, List.set_cons_zero, List.set_cons_succ, i64_w, i32_w]
         rfl
        refine pure_ (i := 2) (N := some 19) (v := ?_) (a' := ?_) #[true, true, true, false, false, false, false, false, false, false] rfl rfl (any_of HT_.out (by kernel_rfl)) (fun _ _ _ h => h) (Or.inl ⟨by rfl, ?_⟩) ?_ ?_
        rotate_left
        ·intro w'
         go_simp
         with_reducible rfl
        rotate_left
        ·simp only [Act.put, List.setIfInBounds_toArray, List.set_cons_zero, List.set_cons_succ, i64_w, i32_w]
         rfl
        refine pure_ (i := 4) (N := some 21) (v := ?_) (a' := ?_) #[true, true, true, false, true, false, false, false, false, false] rfl rfl (any_of HT_.out (by kernel_rfl)) (fun _ _ _ h => h) (Or.inl ⟨by rfl, ?_⟩) ?_ ?_
        rotate_left
        ·intro w'
         go_simp
         with_reducible rfl
        rotate_left
        ·simp only [Act.put, List.setIfInBounds_toArray, List.set_cons_zero, List.set_cons_succ, i64_w, i32_w]
         rfl
        refine pure_ (i := 5) (N := some 22) (v := ?_) (a' := ?_) #[true, true, true, false, true, true, false, false, false, false] rfl rfl (any_of HT_.out (by kernel_rfl)) (fun _ _ _ h => h) (Or.inl ⟨by rfl, ?_⟩) ?_ ?_
        rotate_left
        ·intro w'
         go_simp
         with_reducible rfl
        rotate_left
        ·simp only [Act.put, List.setIfInBounds_toArray, List.set_cons_zero, List.set_cons_succ, i64_w, i32_w]
         rfl
        refine pure_ (i := 6) (N := some 23) (v := ?_) (a' := ?_) #[true, true, true, false, true, true, true, false, false, false] rfl rfl (any_of HT_.out (by kernel_rfl)) (fun _ _ _ h => h) (Or.inl ⟨by rfl, ?_⟩) ?_ ?_
        rotate_left
        ·intro w'
         go_simp
         with_reducible rfl
        rotate_left
        ·simp only [Act.put, List.setIfInBounds_toArray, List.set_cons_zero, List.set_cons_succ, i64_w, i32_w]
         rfl
        refine take_ (i := 3) (N := some 20) (v := ?_) (a' := ?_) #[true, true, true, true, true, true, true, false, false, false] rfl rfl (take_ofW HT_.out HW_.out (by kernel_rfl)) (fun _ _ _ h => h) (Or.inl ⟨by rfl, ?_⟩) hHeld ?_ ?_
        rotate_left
        ·rintro w' ⟨s0, s1, s2, s3, s4, s5⟩
         go_simp
         with_reducible rfl
        rotate_left
        ·simp only [Act.put, List.setIfInBounds_toArray, List.set_cons_zero, List.set_cons_succ, i64_w, i32_w]
         rfl
        refine take_ (i := 7) (N := some 24) (v := ?_) (a' := ?_) #[true, true, true, true, true, true, true, true, false, false] rfl rfl (take_ofW HT_.out HW_.out (by kernel_rfl)) (fun _ _ _ h => h) (Or.inl ⟨by rfl, ?_⟩) hHeld ?_ ?_
        rotate_left
        ·rintro w' ⟨s0, s1, s2, s3, s4, s5⟩
         go_simp
         with_reducible rfl
        rotate_left
        ·simp only [Act.put, List.setIfInBounds_toArray, List.set_cons_zero, List.set_cons_succ, i64_w, i32_w]
         rfl
        refine one_ (i := 8) (N := some 25) #[true, true, true, true, true, true, true, true, true, false] rfl rfl (one_of HT_.out (by kernel_rfl)) (by decide) (fun K hK => ?_)
        refine goes_ Try.func121 (by kernel_rfl) rfl #[.agg #[.int .i64 ((rd_T99 l0 x5_1).f0), .int .i64 ((rd_T99 l0 x5_1).f1), .int .i64 ((rd_T99 l0 x5_1).f2)], .agg #[.int .i64 ((rd_T99 l1 x5_1).f0), .int .i64 ((rd_T99 l1 x5_1).f1), .int .i64 ((rd_T99 l1 x5_1).f2)]] (by rfl) rfl rfl lmB ?_
        with_reducible refine (laws_eqVar.calls ((rd_T99 l0 x5_1).f0) ((rd_T99 l0 x5_1).f1) ((rd_T99 l0 x5_1).f2) ((rd_T99 l1 x5_1).f0) ((rd_T99 l1 x5_1).f1) ((rd_T99 l1 x5_1).f2) true _ A7.out).mono ?_
        rintro e w10 ⟨rfl, hb⟩
        refine ⟨_, rfl, ?_⟩
        have n0_ := Aside0.mk (below_step (by repeat (first | (with_reducible first | exact HB.out | apply bwA | apply bwN | apply bwD) | exact HB.out)) hb)
        clear HB
        have HB := n0_
        clear n0_
        (try clear hb)
        (try clear hb2)
        (try clear hk)
        (try clear hi)
        refine hK.out _ _ ⟨((HB.out.cell (World.block_lt_of_cell? w _ hw281_0)).trans hw281_0), ((HB.out.cell (World.block_lt_of_cell? w _ hw281_1)).trans hw281_1), ((HB.out.cell (World.block_lt_of_cell? w _ hw281_2)).trans hw281_2), ((HB.out.cell (World.block_lt_of_cell? w _ hw282_0)).trans hw282_0), ((HB.out.cell (World.block_lt_of_cell? w _ hw282_1)).trans hw282_1), ((HB.out.cell (World.block_lt_of_cell? w _ hw282_2)).trans hw282_2)⟩ (fun hHeld => ?_)
        clear hK K
        refine norm_ (a' := ?_) ?_ ?_
        rotate_left
        ·show Act.put _ (some 25) _ = _
         simp only [Act.put, List.setIfInBounds_toArray, List.set_cons_zero, List.set_cons_succ, i64_w, i32_w]
         rfl
        refine pure_ (i := 9) (N := some 26) (v := ?_) (a' := ?_) #[true, true, true, true, true, true, true, true, true, true] rfl rfl (any_of HT_.out (by kernel_rfl)) (fun _ _ _ h => h) (Or.inl ⟨by rfl, ?_⟩) ?_ ?_
        rotate_left
        ·intro w'
         go_simp
         with_reducible rfl
        rotate_left
        ·simp only [Act.put, List.setIfInBounds_toArray, List.set_cons_zero, List.set_cons_succ, i64_w, i32_w]
         rfl
        refine done_ (done_of HT_.out (by kernel_rfl)) ?_
        try go_wp2
        go_roundg k1
        case measure => have := HK1.out; omega
        case rel => exact ⟨(wrap64 (x5_1 + 1)), rsd, H', ⟨by have := HK1.out; omega⟩, ⟨by repeat (first | (with_reducible first | exact HB.out | apply bwA | apply bwN | apply bwD) | exact HB.out)⟩⟩
       ·replace c8 := Bool.eq_false_iff.mpr c8
        subst c8
        have H1 : (some false) = some r := by rw [if_neg (show ¬ (false = true) by decide)] at H; exact H
        clear H
        have H := H1
        clear H1
        obtain rfl := Option.some.inj H
        try go_wp2
        have n0_ := Aside0.mk (below_drew1 HB.out)
        clear HB
        have HB := n0_
        clear n0_
        have p281 : 0 ≤ (x5_1 : Int) := oda
        have q281 : x5_1 < (l0.length : Int) := oda
        obtain ⟨ad281, e281, hx281_0, hx281_1, hx281_2⟩ := at_T99 HR0.out x5_1 p281 q281
        have hw281_2 := hx281_2
        have hw281_1 := hx281_1
        have hw281_0 := hx281_0
        cases e281
        try replace hx281_0 := bct HB.out hx281_0
        try replace hx281_1 := bct HB.out hx281_1
        try replace hx281_2 := bct HB.out hx281_2
        replace p281 := eq_true p281
        replace q281 := eq_true q281
        have p282 : 0 ≤ (x5_1 : Int) := oda
        have q282 : x5_1 < (l1.length : Int) := oda
        obtain ⟨ad282, e282, hx282_0, hx282_1, hx282_2⟩ := at_T99 HR1.out x5_1 p282 q282
        have hw282_2 := hx282_2
        have hw282_1 := hx282_1
        have hw282_0 := hx282_0
        cases e282
        try replace hx282_0 := bct HB.out hx282_0
        try replace hx282_1 := bct HB.out hx282_1
        try replace hx282_2 := bct HB.out hx282_2
        replace p282 := eq_true p282
        replace q282 := eq_true q282
        refine start_ (n := 10) (S := fun w' => w'.cell? (ad281.add ((x5_1).toNat * 3)) = some (.int .i64 ((rd_T99 l0 x5_1).f0)) ∧ w'.cell? ⟨(ad281.add ((x5_1).toNat * 3)).block, (ad281.add ((x5_1).toNat * 3)).off + 1, none⟩ = some (.int .i64 ((rd_T99 l0 x5_1).f1)) ∧ w'.cell? ⟨(ad281.add ((x5_1).toNat * 3)).block, (ad281.add ((x5_1).toNat * 3)).off + 2, none⟩ = some (.int .i64 ((rd_T99 l0 x5_1).f2)) ∧ w'.cell? (ad282.add ((x5_1).toNat * 3)) = some (.int .i64 ((rd_T99 l1 x5_1).f0)) ∧ w'.cell? ⟨(ad282.add ((x5_1).toNat * 3)).block, (ad282.add ((x5_1).toNat * 3)).off + 1, none⟩ = some (.int .i64 ((rd_T99 l1 x5_1).f1)) ∧ w'.cell? ⟨(ad282.add ((x5_1).toNat * 3)).block, (ad282.add ((x5_1).toNat * 3)).off + 2, none⟩ = some (.int .i64 ((rd_T99 l1 x5_1).f2))) (ds := []) #[false, false, false, false, false, false, false, false, false, false] (by kernel_rfl) rfl rfl ⟨((HB.out.cell (World.block_lt_of_cell? w _ hw281_0)).trans hw281_0), ((HB.out.cell (World.block_lt_of_cell? w _ hw281_1)).trans hw281_1), ((HB.out.cell (World.block_lt_of_cell? w _ hw281_2)).trans hw281_2), ((HB.out.cell (World.block_lt_of_cell? w _ hw282_0)).trans hw282_0), ((HB.out.cell (World.block_lt_of_cell? w _ hw282_1)).trans hw282_1), ((HB.out.cell (World.block_lt_of_cell? w _ hw282_2)).trans hw282_2)⟩ (fun hHeld => ?_); refine with_tabW laws_eqVarS.tab6 laws_eqVarS.bits6 (fun HT_ HW_ => ?_)
        generalize wr.drew = w11 at HB hx281_0 hx281_1 hx281_2 hx282_0 hx282_1 hx282_2 hHeld ⊢
        refine pure_ (i := 0) (N := some 17) (v := ?_) (a' := ?_) #[true, false, false, false, false, false, false, false, false, false] rfl rfl (any_of HT_.out (by kernel_rfl)) (fun _ _ _ h => h) (Or.inl ⟨by rfl, ?_⟩) ?_ ?_
        rotate_left
        ·intro w'
         go_simp
         with_reducible rfl
        rotate_left
        ·simp only [Act.put, List.setIfInBounds_toArray, List.set_cons_zero, List.set_cons_succ, i64_w, i32_w]
         rfl
        refine pure_ (i := 1) (N := some 18) (v := ?_) (a' := ?_) #[true, true, false, false, false, false, false, false, false, false] rfl rfl (any_of HT_.out (by kernel_rfl)) (fun _ _ _ h => h) (Or.inl ⟨by rfl, ?_⟩) ?_ ?_
        rotate_left
        ·intro w'
         go_simp
         with_reducible rfl
        rotate_left
        ·simp only [Act.put, List.setIfInBounds_toArray, List.set_cons_zero, List.set_cons_succ, i64_w, i32_w]
         rfl
        refine pure_ (i := 2) (N := some 19) (v := ?_) (a' := ?_) #[true, true, true, false, false, false, false, false, false, false] rfl rfl (any_of HT_.out (by kernel_rfl)) (fun _ _ _ h => h) (Or.inl ⟨by rfl, ?_⟩) ?_ ?_
        rotate_left
        ·intro w'
         go_simp
         with_reducible rfl
        rotate_left
        ·simp only [Act.put, List.setIfInBounds_toArray, List.set_cons_zero, List.set_cons_succ, i64_w, i32_w]
         rfl
        refine pure_ (i := 4) (N := some 21) (v := ?_) (a' := ?_) #[true, true, true, false, true, false, false, false, false, false] rfl rfl (any_of HT_.out (by kernel_rfl)) (fun _ _ _ h => h) (Or.inl ⟨by rfl, ?_⟩) ?_ ?_
        rotate_left
        ·intro w'
         go_simp
         with_reducible rfl
        rotate_left
        ·simp only [Act.put, List.setIfInBounds_toArray, List.set_cons_zero, List.set_cons_succ, i64_w, i32_w]
         rfl
        refine pure_ (i := 5) (N := some 22) (v := ?_) (a' := ?_) #[true, true, true, false, true, true, false, false, false, false] rfl rfl (any_of HT_.out (by kernel_rfl)) (fun _ _ _ h => h) (Or.inl ⟨by rfl, ?_⟩) ?_ ?_
        rotate_left
        ·intro w'
         go_simp
         with_reducible rfl
        rotate_left
        ·simp only [Act.put, List.setIfInBounds_toArray, List.set_cons_zero, List.set_cons_succ, i64_w, i32_w]
         rfl
        refine pure_ (i := 6) (N := some 23) (v := ?_) (a' := ?_) #[true, true, true, false, true, true, true, false, false, false] rfl rfl (any_of HT_.out (by kernel_rfl)) (fun _ _ _ h => h) (Or.inl ⟨by rfl, ?_⟩) ?_ ?_
        rotate_left
        ·intro w'
         go_simp
         with_reducible rfl
        rotate_left
        ·simp only [Act.put, List.setIfInBounds_toArray, List.set_cons_zero, List.set_cons_succ, i64_w, i32_w]
         rfl
        refine take_ (i := 3) (N := some 20) (v := ?_) (a' := ?_) #[true, true, true, true, true, true, true, false, false, false] rfl rfl (take_ofW HT_.out HW_.out (by kernel_rfl)) (fun _ _ _ h => h) (Or.inl ⟨by rfl, ?_⟩) hHeld ?_ ?_
        rotate_left
        ·rintro w' ⟨s0, s1, s2, s3, s4, s5⟩
         go_simp
         with_reducible rfl
        rotate_left
        ·simp only [Act.put, List.setIfInBounds_toArray, List.set_cons_zero, List.set_cons_succ, i64_w, i32_w]
         rfl
        refine take_ (i := 7) (N := some 24) (v := ?_) (a' := ?_) #[true, true, true, true, true, true, true, true, false, false] rfl rfl (take_ofW HT_.out HW_.out (by kernel_rfl)) (fun _ _ _ h => h) (Or.inl ⟨by rfl, ?_⟩) hHeld ?_ ?_
        rotate_left
        ·rintro w' ⟨s0, s1, s2, s3, s4, s5⟩
         go_simp
         with_reducible rfl
        rotate_left
        ·simp only [Act.put, List.setIfInBounds_toArray, List.set_cons_zero, List.set_cons_succ, i64_w, i32_w]
         rfl
        refine one_ (i := 8) (N := some 25) #[true, true, true, true, true, true, true, true, true, false] rfl rfl (one_of HT_.out (by kernel_rfl)) (by decide) (fun K hK => ?_)
        refine goes_ Try.func121 (by kernel_rfl) rfl #[.agg #[.int .i64 ((rd_T99 l0 x5_1).f0), .int .i64 ((rd_T99 l0 x5_1).f1), .int .i64 ((rd_T99 l0 x5_1).f2)], .agg #[.int .i64 ((rd_T99 l1 x5_1).f0), .int .i64 ((rd_T99 l1 x5_1).f1), .int .i64 ((rd_T99 l1 x5_1).f2)]] (by rfl) rfl rfl lmB ?_
        with_reducible refine (laws_eqVar.calls ((rd_T99 l0 x5_1).f0) ((rd_T99 l0 x5_1).f1) ((rd_T99 l0 x5_1).f2) ((rd_T99 l1 x5_1).f0) ((rd_T99 l1 x5_1).f1) ((rd_T99 l1 x5_1).f2) false _ A7.out).mono ?_
        rintro e w12 ⟨rfl, hb⟩
        refine ⟨_, rfl, ?_⟩
        have n0_ := Aside0.mk (below_step (by repeat (first | (with_reducible first | exact HB.out | apply bwA | apply bwN | apply bwD) | exact HB.out)) hb)
        clear HB
        have HB := n0_
        clear n0_
        (try clear hb)
        (try clear hb2)
        (try clear hk)
        (try clear hi)
        refine hK.out _ _ ⟨((HB.out.cell (World.block_lt_of_cell? w _ hw281_0)).trans hw281_0), ((HB.out.cell (World.block_lt_of_cell? w _ hw281_1)).trans hw281_1), ((HB.out.cell (World.block_lt_of_cell? w _ hw281_2)).trans hw281_2), ((HB.out.cell (World.block_lt_of_cell? w _ hw282_0)).trans hw282_0), ((HB.out.cell (World.block_lt_of_cell? w _ hw282_1)).trans hw282_1), ((HB.out.cell (World.block_lt_of_cell? w _ hw282_2)).trans hw282_2)⟩ (fun hHeld => ?_)
        clear hK K
        refine norm_ (a' := ?_) ?_ ?_
        rotate_left
        ·show Act.put _ (some 25) _ = _
         simp only [Act.put, List.setIfInBounds_toArray, List.set_cons_zero, List.set_cons_succ, i64_w, i32_w]
         rfl
        refine pure_ (i := 9) (N := some 26) (v := ?_) (a' := ?_) #[true, true, true, true, true, true, true, true, true, true] rfl rfl (any_of HT_.out (by kernel_rfl)) (fun _ _ _ h => h) (Or.inl ⟨by rfl, ?_⟩) ?_ ?_
        rotate_left
        ·intro w'
         go_simp
         with_reducible rfl
        rotate_left
        ·simp only [Act.put, List.setIfInBounds_toArray, List.set_cons_zero, List.set_cons_succ, i64_w, i32_w]
         rfl
        refine done_ (done_of HT_.out (by kernel_rfl)) ?_
        try go_wp2
        go_ret
        exact ⟨ers, by repeat (first | (with_reducible first | exact HB.out | apply bwA | apply bwN | apply bwD) | exact HB.out)⟩
      ·rw [if_neg c6] at H
       exact absurd H (by simp)
     ·rw [if_neg c5] at H
      exact absurd H (by simp)
    ·rw [if_neg c4] at H
     have c4b0 : decide (x5_1 < (l0.length : Int)) = false := decide_eq_false c4
     clear c4
     obtain rfl := Option.some.inj H
     go_wp2
     go_ret
     exact ⟨ers, by repeat (first | (with_reducible first | exact HB.out | apply bwA | apply bwN | apply bwD) | exact HB.out)⟩
 ·rw [if_neg c3] at H
  have c3b0 : ((l0.length : Int) == (l1.length : Int)) = false := beq_eq_false_iff_ne.mpr c3
  have c3b1 : ((l0.length : Int) != (l1.length : Int)) = true := bne_iff_ne.mpr c3
  have c3b2 : (l0.length == l1.length) = false := by first | simpa using c3 | (simp at c3 ⊢; omega)
  obtain rfl := Option.some.inj H
  go_enter Try.func81, Try.ntmps81
  go_wp2
  go_ret
  exact ⟨ers, by repeat (first | (with_reducible first | exact HB.out | apply bwA | apply bwN | apply bwD) | exact HB.out)⟩

/-! ### laws_eqTerm: function 58 -/
def laws_eqTerm.f (a0_0 : Int) (a0_1 : Int) (a0_2 : Int) (a0_3 : Int) (a1_0 : Int) (a1_1 : Int) (a1_2 : Int) (a1_3 : Int) : Option (Bool) := if a0_0 = a1_0 then (if a0_1 = a1_1 then (if a0_2 = a1_2 then (if a0_3 = a1_3 then (some true) else (some false)) else (some false)) else (some false)) else (some false)
set_option maxHeartbeats 8000000 in
set_option maxRecDepth 100000 in
theorem laws_eqTerm.calls (a0_0 : Int) (a0_1 : Int) (a0_2 : Int) (a0_3 : Int) (a1_0 : Int) (a1_1 : Int) (a1_2 : Int) (a1_3 : Int) (r : Bool) (w : World) (h : laws_eqTerm.f a0_0 a0_1 a0_2 a0_3 a1_0 a1_1 a1_2 a1_3 = some r) :
  Calls Try.prog 58 #[.agg #[.int .i64 a0_0, .int .i64 a0_1, .int .i64 a0_2, .int .i64 a0_3], .agg #[.int .i64 a1_0, .int .i64 a1_1, .int .i64 a1_2, .int .i64 a1_3]] w fun e w' => e = .returned (.bool r) ∧ Below w.heap.size w w' := by
 have hu73 := Try.underlying73
 have HB := Aside0.mk (Below.refl w.heap.size w)
 have H : (if a0_0 = a1_0 then (if a0_1 = a1_1 then (if a0_2 = a1_2 then (if a0_3 = a1_3 then (some true) else (some false)) else (some false)) else (some false)) else (some false)) = some r := h
 clear h
 by_cases c3 : a0_0 = a1_0
 ·rw [if_pos c3] at H
  have c3b0 : (a0_0 == a1_0) = true := beq_iff_eq.mpr c3
  have c3b1 : (a0_0 != a1_0) = false := bne_eq_false_iff_eq.mpr c3
  clear c3
  by_cases c4 : a0_1 = a1_1
  ·rw [if_pos c4] at H
   have c4b0 : (a0_1 == a1_1) = true := beq_iff_eq.mpr c4
   have c4b1 : (a0_1 != a1_1) = false := bne_eq_false_iff_eq.mpr c4
   clear c4
   by_cases c5 : a0_2 = a1_2
   ·rw [if_pos c5] at H
    have c5b0 : (a0_2 == a1_2) = true := beq_iff_eq.mpr c5
    have c5b1 : (a0_2 != a1_2) = false := bne_eq_false_iff_eq.mpr c5
    clear c5
    by_cases c6 : a0_3 = a1_3
    ·rw [if_pos c6] at H
     have c6b0 : (a0_3 == a1_3) = true := beq_iff_eq.mpr c6
     have c6b1 : (a0_3 != a1_3) = false := bne_eq_false_iff_eq.mpr c6
     clear c6
     obtain rfl := Option.some.inj H
     go_enter Try.func58, Try.ntmps58
     go_wp2_with (first | ((with_reducible refine gate_dst (N := 2) rfl ?_); refine box_event ?hg (N := 2) ?hd (cs := #[.int .i64 a0_0, .int .i64 a0_1, .int .i64 a0_2, .int .i64 a0_3]) (t := 73) ?hr ?_; (case hd => rfl); (case hg => rfl); (case hr => first | (go_simp; done) | (go_simp; rfl)); intro gb284 hg w7 hbox hb; have n0_ := Aside0.mk (below_step (by repeat (first | (with_reducible first | exact HB.out | apply bwA | apply bwN | apply bwD) | exact HB.out)) hb); have n1_ := Aside0.mk (hbox); have n2_ := Aside0.mk ((by rw [hg]; exact (below_size (by repeat (first | (with_reducible first | exact HB.out | apply bwA | apply bwN | apply bwD) | exact HB.out))) : w.heap.size ≤ gb284)); have n3_ := Aside0.mk ((by rw [hg]; exact (below_size (by repeat (first | (with_reducible first | exact HB.out | apply bwA | apply bwN | apply bwD) | exact HB.out))) : w.heap.size ≤ gb284)); clear HB; have HB := n0_; have BK284 := n1_; have GW284 := n2_; have GE284 := n3_; clear n0_ n1_ n2_ n3_; clear hb hbox hg) | ((with_reducible refine gate_dst (N := 3) rfl ?_); refine box_event ?hg (N := 3) ?hd (cs := #[.int .i64 a1_0, .int .i64 a1_1, .int .i64 a1_2, .int .i64 a1_3]) (t := 73) ?hr ?_; (case hd => rfl); (case hg => rfl); (case hr => first | (go_simp; done) | (go_simp; rfl)); intro gb285 hg w8 hbox hb; have n0_ := Aside0.mk (blk_below (g := gb284) (o := .cells #[.int .i64 a0_0, .int .i64 a0_1, .int .i64 a0_2, .int .i64 a0_3] 73 (0, 0)) (bvK BK284.out) hb); have n1_ := Aside0.mk (below_step (by repeat (first | (with_reducible first | exact HB.out | apply bwA | apply bwN | apply bwD | refine below_set ?_ GE284.out) | exact HB.out)) hb); have n2_ := Aside0.mk (hbox); have n3_ := Aside0.mk ((by rw [hg]; exact (below_size (by repeat (first | (with_reducible first | exact HB.out | apply bwA | apply bwN | apply bwD | refine below_set ?_ GE284.out) | exact HB.out))) : w.heap.size ≤ gb285)); have n4_ := Aside0.mk ((by rw [hg]; exact (below_size (by repeat (first | (with_reducible first | exact HB.out | apply bwA | apply bwN | apply bwD | refine below_set ?_ GE284.out) | exact HB.out))) : w.heap.size ≤ gb285)); have n5_ := Aside0.mk ((by rw [hg]; exact Nat.ne_of_lt (blk_lt (g := gb284) (o := .cells #[.int .i64 a0_0, .int .i64 a0_1, .int .i64 a0_2, .int .i64 a0_3] 73 (0, 0)) (bvK BK284.out)) : gb284 ≠ gb285)); have n6_ := Aside0.mk ((by rw [hg]; exact Nat.ne_of_gt (blk_lt (g := gb284) (o := .cells #[.int .i64 a0_0, .int .i64 a0_1, .int .i64 a0_2, .int .i64 a0_3] 73 (0, 0)) (bvK BK284.out)) : gb285 ≠ gb284)); clear BK284; clear HB; have BK284 := n0_; have HB := n1_; have BK285 := n2_; have GW285 := n3_; have GE285 := n4_; have NB284_285 := n5_; have NB285_284 := n6_; clear n0_ n1_ n2_ n3_ n4_ n5_ n6_; clear hb hbox hg; have hnb9 := NB284_285.out; have hnc9 := NB285_284.out; have hcz10_0 : w8.cell? ⟨gb284, 0, none⟩ = some (.int .i64 a0_0) := (blk_cell BK284.out 0).trans rfl; have hcz10_1 : w8.cell? ⟨gb284, 1, none⟩ = some (.int .i64 a0_1) := (blk_cell BK284.out 1).trans rfl; have hcz10_2 : w8.cell? ⟨gb284, 2, none⟩ = some (.int .i64 a0_2) := (blk_cell BK284.out 2).trans rfl; have hcz10_3 : w8.cell? ⟨gb284, 3, none⟩ = some (.int .i64 a0_3) := (blk_cell BK284.out 3).trans rfl; have hfz10_0 := blk_frozen BK284.out 0; have hfz10_1 := blk_frozen BK284.out 1; have hfz10_2 := blk_frozen BK284.out 2; have hfz10_3 := blk_frozen BK284.out 3; have hcz11_0 : w8.cell? ⟨gb285, 0, none⟩ = some (.int .i64 a1_0) := (blk_cell BK285.out 0).trans rfl; have hcz11_1 : w8.cell? ⟨gb285, 1, none⟩ = some (.int .i64 a1_1) := (blk_cell BK285.out 1).trans rfl; have hcz11_2 : w8.cell? ⟨gb285, 2, none⟩ = some (.int .i64 a1_2) := (blk_cell BK285.out 2).trans rfl; have hcz11_3 : w8.cell? ⟨gb285, 3, none⟩ = some (.int .i64 a1_3) := (blk_cell BK285.out 3).trans rfl; have hfz11_0 := blk_frozen BK285.out 0; have hfz11_1 := blk_frozen BK285.out 1; have hfz11_2 := blk_frozen BK285.out 2; have hfz11_3 := blk_frozen BK285.out 3))
     go_ret
     exact ⟨ers, by repeat (first | (with_reducible first | exact HB.out | apply bwA | apply bwN | apply bwD | refine below_set ?_ GE284.out | refine below_set ?_ GE285.out) | exact HB.out)⟩
    ·rw [if_neg c6] at H
     have c6b0 : (a0_3 == a1_3) = false := beq_eq_false_iff_ne.mpr c6
     have c6b1 : (a0_3 != a1_3) = true := bne_iff_ne.mpr c6
     obtain rfl := Option.some.inj H
     go_enter Try.func58, Try.ntmps58
     go_wp2_with (first | ((with_reducible refine gate_dst (N := 2) rfl ?_); refine box_event ?hg (N := 2) ?hd (cs := #[.int .i64 a0_0, .int .i64 a0_1, .int .i64 a0_2, .int .i64 a0_3]) (t := 73) ?hr ?_; (case hd => rfl); (case hg => rfl); (case hr => first | (go_simp; done) | (go_simp; rfl)); intro gb284 hg w12 hbox hb; have n0_ := Aside0.mk (below_step (by repeat (first | (with_reducible first | exact HB.out | apply bwA | apply bwN | apply bwD) | exact HB.out)) hb); have n1_ := Aside0.mk (hbox); have n2_ := Aside0.mk ((by rw [hg]; exact (below_size (by repeat (first | (with_reducible first | exact HB.out | apply bwA | apply bwN | apply bwD) | exact HB.out))) : w.heap.size ≤ gb284)); have n3_ := Aside0.mk ((by rw [hg]; exact (below_size (by repeat (first | (with_reducible first | exact HB.out | apply bwA | apply bwN | apply bwD) | exact HB.out))) : w.heap.size ≤ gb284)); clear HB; have HB := n0_; have BK284 := n1_; have GW284 := n2_; have GE284 := n3_; clear n0_ n1_ n2_ n3_; clear hb hbox hg) | ((with_reducible refine gate_dst (N := 3) rfl ?_); refine box_event ?hg (N := 3) ?hd (cs := #[.int .i64 a1_0, .int .i64 a1_1, .int .i64 a1_2, .int .i64 a1_3]) (t := 73) ?hr ?_; (case hd => rfl); (case hg => rfl); (case hr => first | (go_simp; done) | (go_simp; rfl)); intro gb285 hg w13 hbox hb; have n0_ := Aside0.mk (blk_below (g := gb284) (o := .cells #[.int .i64 a0_0, .int .i64 a0_1, .int .i64 a0_2, .int .i64 a0_3] 73 (0, 0)) (bvK BK284.out) hb); have n1_ := Aside0.mk (below_step (by repeat (first | (with_reducible first | exact HB.out | apply bwA | apply bwN | apply bwD | refine below_set ?_ GE284.out) | exact HB.out)) hb); have n2_ := Aside0.mk (hbox); have n3_ := Aside0.mk ((by rw [hg]; exact (below_size (by repeat (first | (with_reducible first | exact HB.out | apply bwA | apply bwN | apply bwD | refine below_set ?_ GE284.out) | exact HB.out))) : w.heap.size ≤ gb285)); have n4_ := Aside0.mk ((by rw [hg]; exact (below_size (by repeat (first | (with_reducible first | exact HB.out | apply bwA | apply bwN | apply bwD | refine below_set ?_ GE284.out) | exact HB.out))) : w.heap.size ≤ gb285)); have n5_ := Aside0.mk ((by rw [hg]; exact Nat.ne_of_lt (blk_lt (g := gb284) (o := .cells #[.int .i64 a0_0, .int .i64 a0_1, .int .i64 a0_2, .int .i64 a0_3] 73 (0, 0)) (bvK BK284.out)) : gb284 ≠ gb285)); have n6_ := Aside0.mk ((by rw [hg]; exact Nat.ne_of_gt (blk_lt (g := gb284) (o := .cells #[.int .i64 a0_0, .int .i64 a0_1, .int .i64 a0_2, .int .i64 a0_3] 73 (0, 0)) (bvK BK284.out)) : gb285 ≠ gb284)); clear BK284; clear HB; have BK284 := n0_; have HB := n1_; have BK285 := n2_; have GW285 := n3_; have GE285 := n4_; have NB284_285 := n5_; have NB285_284 := n6_; clear n0_ n1_ n2_ n3_ n4_ n5_ n6_; clear hb hbox hg; have hnb14 := NB284_285.out; have hnc14 := NB285_284.out; have hcz15_0 : w13.cell? ⟨gb284, 0, none⟩ = some (.int .i64 a0_0) := (blk_cell BK284.out 0).trans rfl; have hcz15_1 : w13.cell? ⟨gb284, 1, none⟩ = some (.int .i64 a0_1) := (blk_cell BK284.out 1).trans rfl; have hcz15_2 : w13.cell? ⟨gb284, 2, none⟩ = some (.int .i64 a0_2) := (blk_cell BK284.out 2).trans rfl; have hcz15_3 : w13.cell? ⟨gb284, 3, none⟩ = some (.int .i64 a0_3) := (blk_cell BK284.out 3).trans rfl; have hfz15_0 := blk_frozen BK284.out 0; have hfz15_1 := blk_frozen BK284.out 1; have hfz15_2 := blk_frozen BK284.out 2; have hfz15_3 := blk_frozen BK284.out 3; have hcz16_0 : w13.cell? ⟨gb285, 0, none⟩ = some (.int .i64 a1_0) := (blk_cell BK285.out 0).trans rfl; have hcz16_1 : w13.cell? ⟨gb285, 1, none⟩ = some (.int .i64 a1_1) := (blk_cell BK285.out 1).trans rfl; have hcz16_2 : w13.cell? ⟨gb285, 2, none⟩ = some (.int .i64 a1_2) := (blk_cell BK285.out 2).trans rfl; have hcz16_3 : w13.cell? ⟨gb285, 3, none⟩ = some (.int .i64 a1_3) := (blk_cell BK285.out 3).trans rfl; have hfz16_0 := blk_frozen BK285.out 0; have hfz16_1 := blk_frozen BK285.out 1; have hfz16_2 := blk_frozen BK285.out 2; have hfz16_3 := blk_frozen BK285.out 3))
     go_ret
     exact ⟨ers, by repeat (first | (with_reducible first | exact HB.out | apply bwA | apply bwN | apply bwD | refine below_set ?_ GE284.out | refine below_set ?_ GE285.out) | exact HB.out)⟩
   ·rw [if_neg c5] at H
    have c5b0 : (a0_2 == a1_2) = false := beq_eq_false_iff_ne.mpr c5
    have c5b1 : (a0_2 != a1_2) = true := bne_iff_ne.mpr c5
    obtain rfl := Option.some.inj H
    go_enter Try.func58, Try.ntmps58
    go_wp2_with (first | ((with_reducible refine gate_dst (N := 2) rfl ?_); refine box_event ?hg (N := 2) ?hd (cs := #[.int .i64 a0_0, .int .i64 a0_1, .int .i64 a0_2, .int .i64 a0_3]) (t := 73) ?hr ?_; (case hd => rfl); (case hg => rfl); (case hr => first | (go_simp; done) | (go_simp; rfl)); intro gb284 hg w17 hbox hb; have n0_ := Aside0.mk (below_step (by repeat (first | (with_reducible first | exact HB.out | apply bwA | apply bwN | apply bwD) | exact HB.out)) hb); have n1_ := Aside0.mk (hbox); have n2_ := Aside0.mk ((by rw [hg]; exact (below_size (by repeat (first | (with_reducible first | exact HB.out | apply bwA | apply bwN | apply bwD) | exact HB.out))) : w.heap.size ≤ gb284)); have n3_ := Aside0.mk ((by rw [hg]; exact (below_size (by repeat (first | (with_reducible first | exact HB.out | apply bwA | apply bwN | apply bwD) | exact HB.out))) : w.heap.size ≤ gb284)); clear HB; have HB := n0_; have BK284 := n1_; have GW284 := n2_; have GE284 := n3_; clear n0_ n1_ n2_ n3_; clear hb hbox hg) | ((with_reducible refine gate_dst (N := 3) rfl ?_); refine box_event ?hg (N := 3) ?hd (cs := #[.int .i64 a1_0, .int .i64 a1_1, .int .i64 a1_2, .int .i64 a1_3]) (t := 73) ?hr ?_; (case hd => rfl); (case hg => rfl); (case hr => first | (go_simp; done) | (go_simp; rfl)); intro gb285 hg w18 hbox hb; have n0_ := Aside0.mk (blk_below (g := gb284) (o := .cells #[.int .i64 a0_0, .int .i64 a0_1, .int .i64 a0_2, .int .i64 a0_3] 73 (0, 0)) (bvK BK284.out) hb); have n1_ := Aside0.mk (below_step (by repeat (first | (with_reducible first | exact HB.out | apply bwA | apply bwN | apply bwD | refine below_set ?_ GE284.out) | exact HB.out)) hb); have n2_ := Aside0.mk (hbox); have n3_ := Aside0.mk ((by rw [hg]; exact (below_size (by repeat (first | (with_reducible first | exact HB.out | apply bwA | apply bwN | apply bwD | refine below_set ?_ GE284.out) | exact HB.out))) : w.heap.size ≤ gb285)); have n4_ := Aside0.mk ((by rw [hg]; exact (below_size (by repeat (first | (with_reducible first | exact HB.out | apply bwA | apply bwN | apply bwD | refine below_set ?_ GE284.out) | exact HB.out))) : w.heap.size ≤ gb285)); have n5_ := Aside0.mk ((by rw [hg]; exact Nat.ne_of_lt (blk_lt (g := gb284) (o := .cells #[.int .i64 a0_0, .int .i64 a0_1, .int .i64 a0_2, .int .i64 a0_3] 73 (0, 0)) (bvK BK284.out)) : gb284 ≠ gb285)); have n6_ := Aside0.mk ((by rw [hg]; exact Nat.ne_of_gt (blk_lt (g := gb284) (o := .cells #[.int .i64 a0_0, .int .i64 a0_1, .int .i64 a0_2, .int .i64 a0_3] 73 (0, 0)) (bvK BK284.out)) : gb285 ≠ gb284)); clear BK284; clear HB; have BK284 := n0_; have HB := n1_; have BK285 := n2_; have GW285 := n3_; have GE285 := n4_; have NB284_285 := n5_; have NB285_284 := n6_; clear n0_ n1_ n2_ n3_ n4_ n5_ n6_; clear hb hbox hg; have hnb19 := NB284_285.out; have hnc19 := NB285_284.out; have hcz20_0 : w18.cell? ⟨gb284, 0, none⟩ = some (.int .i64 a0_0) := (blk_cell BK284.out 0).trans rfl; have hcz20_1 : w18.cell? ⟨gb284, 1, none⟩ = some (.int .i64 a0_1) := (blk_cell BK284.out 1).trans rfl; have hcz20_2 : w18.cell? ⟨gb284, 2, none⟩ = some (.int .i64 a0_2) := (blk_cell BK284.out 2).trans rfl; have hcz20_3 : w18.cell? ⟨gb284, 3, none⟩ = some (.int .i64 a0_3) := (blk_cell BK284.out 3).trans rfl; have hfz20_0 := blk_frozen BK284.out 0; have hfz20_1 := blk_frozen BK284.out 1; have hfz20_2 := blk_frozen BK284.out 2; have hfz20_3 := blk_frozen BK284.out 3; have hcz21_0 : w18.cell? ⟨gb285, 0, none⟩ = some (.int .i64 a1_0) := (blk_cell BK285.out 0).trans rfl; have hcz21_1 : w18.cell? ⟨gb285, 1, none⟩ = some (.int .i64 a1_1) := (blk_cell BK285.out 1).trans rfl; have hcz21_2 : w18.cell? ⟨gb285, 2, none⟩ = some (.int .i64 a1_2) := (blk_cell BK285.out 2).trans rfl; have hcz21_3 : w18.cell? ⟨gb285, 3, none⟩ = some (.int .i64 a1_3) := (blk_cell BK285.out 3).trans rfl; have hfz21_0 := blk_frozen BK285.out 0; have hfz21_1 := blk_frozen BK285.out 1; have hfz21_2 := blk_frozen BK285.out 2; have hfz21_3 := blk_frozen BK285.out 3))
    go_ret
    exact ⟨ers, by repeat (first | (with_reducible first | exact HB.out | apply bwA | apply bwN | apply bwD | refine below_set ?_ GE284.out | refine below_set ?_ GE285.out) | exact HB.out)⟩
  ·rw [if_neg c4] at H
   have c4b0 : (a0_1 == a1_1) = false := beq_eq_false_iff_ne.mpr c4
   have c4b1 : (a0_1 != a1_1) = true := bne_iff_ne.mpr c4
   obtain rfl := Option.some.inj H
   go_enter Try.func58, Try.ntmps58
   go_wp2_with (first | ((with_reducible refine gate_dst (N := 2) rfl ?_); refine box_event ?hg (N := 2) ?hd (cs := #[.int .i64 a0_0, .int .i64 a0_1, .int .i64 a0_2, .int .i64 a0_3]) (t := 73) ?hr ?_; (case hd => rfl); (case hg => rfl); (case hr => first | (go_simp; done) | (go_simp; rfl)); intro gb284 hg w22 hbox hb; have n0_ := Aside0.mk (below_step (by repeat (first | (with_reducible first | exact HB.out | apply bwA | apply bwN | apply bwD) | exact HB.out)) hb); have n1_ := Aside0.mk (hbox); have n2_ := Aside0.mk ((by rw [hg]; exact (below_size (by repeat (first | (with_reducible first | exact HB.out | apply bwA | apply bwN | apply bwD) | exact HB.out))) : w.heap.size ≤ gb284)); have n3_ := Aside0.mk ((by rw [hg]; exact (below_size (by repeat (first | (with_reducible first | exact HB.out | apply bwA | apply bwN | apply bwD) | exact HB.out))) : w.heap.size ≤ gb284)); clear HB; have HB := n0_; have BK284 := n1_; have GW284 := n2_; have GE284 := n3_; clear n0_ n1_ n2_ n3_; clear hb hbox hg) | ((with_reducible refine gate_dst (N := 3) rfl ?_); refine box_event ?hg (N := 3) ?hd (cs := #[.int .i64 a1_0, .int .i64 a1_1, .int .i64 a1_2, .int .i64 a1_3]) (t := 73) ?hr ?_; (case hd => rfl); (case hg => rfl); (case hr => first | (go_simp; done) | (go_simp; rfl)); intro gb285 hg w23 hbox hb; have n0_ := Aside0.mk (blk_below (g := gb284) (o := .cells #[.int .i64 a0_0, .int .i64 a0_1, .int .i64 a0_2, .int .i64 a0_3] 73 (0, 0)) (bvK BK284.out) hb); have n1_ := Aside0.mk (below_step (by repeat (first | (with_reducible first | exact HB.out | apply bwA | apply bwN | apply bwD | refine below_set ?_ GE284.out) | exact HB.out)) hb); have n2_ := Aside0.mk (hbox); have n3_ := Aside0.mk ((by rw [hg]; exact (below_size (by repeat (first | (with_reducible first | exact HB.out | apply bwA | apply bwN | apply bwD | refine below_set ?_ GE284.out) | exact HB.out))) : w.heap.size ≤ gb285)); have n4_ := Aside0.mk ((by rw [hg]; exact (below_size (by repeat (first | (with_reducible first | exact HB.out | apply bwA | apply bwN | apply bwD | refine below_set ?_ GE284.out) | exact HB.out))) : w.heap.size ≤ gb285)); have n5_ := Aside0.mk ((by rw [hg]; exact Nat.ne_of_lt (blk_lt (g := gb284) (o := .cells #[.int .i64 a0_0, .int .i64 a0_1, .int .i64 a0_2, .int .i64 a0_3] 73 (0, 0)) (bvK BK284.out)) : gb284 ≠ gb285)); have n6_ := Aside0.mk ((by rw [hg]; exact Nat.ne_of_gt (blk_lt (g := gb284) (o := .cells #[.int .i64 a0_0, .int .i64 a0_1, .int .i64 a0_2, .int .i64 a0_3] 73 (0, 0)) (bvK BK284.out)) : gb285 ≠ gb284)); clear BK284; clear HB; have BK284 := n0_; have HB := n1_; have BK285 := n2_; have GW285 := n3_; have GE285 := n4_; have NB284_285 := n5_; have NB285_284 := n6_; clear n0_ n1_ n2_ n3_ n4_ n5_ n6_; clear hb hbox hg; have hnb24 := NB284_285.out; have hnc24 := NB285_284.out; have hcz25_0 : w23.cell? ⟨gb284, 0, none⟩ = some (.int .i64 a0_0) := (blk_cell BK284.out 0).trans rfl; have hcz25_1 : w23.cell? ⟨gb284, 1, none⟩ = some (.int .i64 a0_1) := (blk_cell BK284.out 1).trans rfl; have hcz25_2 : w23.cell? ⟨gb284, 2, none⟩ = some (.int .i64 a0_2) := (blk_cell BK284.out 2).trans rfl; have hcz25_3 : w23.cell? ⟨gb284, 3, none⟩ = some (.int .i64 a0_3) := (blk_cell BK284.out 3).trans rfl; have hfz25_0 := blk_frozen BK284.out 0; have hfz25_1 := blk_frozen BK284.out 1; have hfz25_2 := blk_frozen BK284.out 2; have hfz25_3 := blk_frozen BK284.out 3; have hcz26_0 : w23.cell? ⟨gb285, 0, none⟩ = some (.int .i64 a1_0) := (blk_cell BK285.out 0).trans rfl; have hcz26_1 : w23.cell? ⟨gb285, 1, none⟩ = some (.int .i64 a1_1) := (blk_cell BK285.out 1).trans rfl; have hcz26_2 : w23.cell? ⟨gb285, 2, none⟩ = some (.int .i64 a1_2) := (blk_cell BK285.out 2).trans rfl; have hcz26_3 : w23.cell? ⟨gb285, 3, none⟩ = some (.int .i64 a1_3) := (blk_cell BK285.out 3).trans rfl; have hfz26_0 := blk_frozen BK285.out 0; have hfz26_1 := blk_frozen BK285.out 1; have hfz26_2 := blk_frozen BK285.out 2; have hfz26_3 := blk_frozen BK285.out 3))
   go_ret
   exact ⟨ers, by repeat (first | (with_reducible first | exact HB.out | apply bwA | apply bwN | apply bwD | refine below_set ?_ GE284.out | refine below_set ?_ GE285.out) | exact HB.out)⟩
 ·rw [if_neg c3] at H
  have c3b0 : (a0_0 == a1_0) = false := beq_eq_false_iff_ne.mpr c3
  have c3b1 : (a0_0 != a1_0) = true := bne_iff_ne.mpr c3
  obtain rfl := Option.some.inj H
  go_enter Try.func58, Try.ntmps58
  go_wp2_with (first | ((with_reducible refine gate_dst (N := 2) rfl ?_); refine box_event ?hg (N := 2) ?hd (cs := #[.int .i64 a0_0, .int .i64 a0_1, .int .i64 a0_2, .int .i64 a0_3]) (t := 73) ?hr ?_; (case hd => rfl); (case hg => rfl); (case hr => first | (go_simp; done) | (go_simp; rfl)); intro gb284 hg w27 hbox hb; have n0_ := Aside0.mk (below_step (by repeat (first | (with_reducible first | exact HB.out | apply bwA | apply bwN | apply bwD) | exact HB.out)) hb); have n1_ := Aside0.mk (hbox); have n2_ := Aside0.mk ((by rw [hg]; exact (below_size (by repeat (first | (with_reducible first | exact HB.out | apply bwA | apply bwN | apply bwD) | exact HB.out))) : w.heap.size ≤ gb284)); have n3_ := Aside0.mk ((by rw [hg]; exact (below_size (by repeat (first | (with_reducible first | exact HB.out | apply bwA | apply bwN | apply bwD) | exact HB.out))) : w.heap.size ≤ gb284)); clear HB; have HB := n0_; have BK284 := n1_; have GW284 := n2_; have GE284 := n3_; clear n0_ n1_ n2_ n3_; clear hb hbox hg) | ((with_reducible refine gate_dst (N := 3) rfl ?_); refine box_event ?hg (N := 3) ?hd (cs := #[.int .i64 a1_0, .int .i64 a1_1, .int .i64 a1_2, .int .i64 a1_3]) (t := 73) ?hr ?_; (case hd => rfl); (case hg => rfl); (case hr => first | (go_simp; done) | (go_simp; rfl)); intro gb285 hg w28 hbox hb; have n0_ := Aside0.mk (blk_below (g := gb284) (o := .cells #[.int .i64 a0_0, .int .i64 a0_1, .int .i64 a0_2, .int .i64 a0_3] 73 (0, 0)) (bvK BK284.out) hb); have n1_ := Aside0.mk (below_step (by repeat (first | (with_reducible first | exact HB.out | apply bwA | apply bwN | apply bwD | refine below_set ?_ GE284.out) | exact HB.out)) hb); have n2_ := Aside0.mk (hbox); have n3_ := Aside0.mk ((by rw [hg]; exact (below_size (by repeat (first | (with_reducible first | exact HB.out | apply bwA | apply bwN | apply bwD | refine below_set ?_ GE284.out) | exact HB.out))) : w.heap.size ≤ gb285)); have n4_ := Aside0.mk ((by rw [hg]; exact (below_size (by repeat (first | (with_reducible first | exact HB.out | apply bwA | apply bwN | apply bwD | refine below_set ?_ GE284.out) | exact HB.out))) : w.heap.size ≤ gb285)); have n5_ := Aside0.mk ((by rw [hg]; exact Nat.ne_of_lt (blk_lt (g := gb284) (o := .cells #[.int .i64 a0_0, .int .i64 a0_1, .int .i64 a0_2, .int .i64 a0_3] 73 (0, 0)) (bvK BK284.out)) : gb284 ≠ gb285)); have n6_ := Aside0.mk ((by rw [hg]; exact Nat.ne_of_gt (blk_lt (g := gb284) (o := .cells #[.int .i64 a0_0, .int .i64 a0_1, .int .i64 a0_2, .int .i64 a0_3] 73 (0, 0)) (bvK BK284.out)) : gb285 ≠ gb284)); clear BK284; clear HB; have BK284 := n0_; have HB := n1_; have BK285 := n2_; have GW285 := n3_; have GE285 := n4_; have NB284_285 := n5_; have NB285_284 := n6_; clear n0_ n1_ n2_ n3_ n4_ n5_ n6_; clear hb hbox hg; have hnb29 := NB284_285.out; have hnc29 := NB285_284.out; have hcz30_0 : w28.cell? ⟨gb284, 0, none⟩ = some (.int .i64 a0_0) := (blk_cell BK284.out 0).trans rfl; have hcz30_1 : w28.cell? ⟨gb284, 1, none⟩ = some (.int .i64 a0_1) := (blk_cell BK284.out 1).trans rfl; have hcz30_2 : w28.cell? ⟨gb284, 2, none⟩ = some (.int .i64 a0_2) := (blk_cell BK284.out 2).trans rfl; have hcz30_3 : w28.cell? ⟨gb284, 3, none⟩ = some (.int .i64 a0_3) := (blk_cell BK284.out 3).trans rfl; have hfz30_0 := blk_frozen BK284.out 0; have hfz30_1 := blk_frozen BK284.out 1; have hfz30_2 := blk_frozen BK284.out 2; have hfz30_3 := blk_frozen BK284.out 3; have hcz31_0 : w28.cell? ⟨gb285, 0, none⟩ = some (.int .i64 a1_0) := (blk_cell BK285.out 0).trans rfl; have hcz31_1 : w28.cell? ⟨gb285, 1, none⟩ = some (.int .i64 a1_1) := (blk_cell BK285.out 1).trans rfl; have hcz31_2 : w28.cell? ⟨gb285, 2, none⟩ = some (.int .i64 a1_2) := (blk_cell BK285.out 2).trans rfl; have hcz31_3 : w28.cell? ⟨gb285, 3, none⟩ = some (.int .i64 a1_3) := (blk_cell BK285.out 3).trans rfl; have hfz31_0 := blk_frozen BK285.out 0; have hfz31_1 := blk_frozen BK285.out 1; have hfz31_2 := blk_frozen BK285.out 2; have hfz31_3 := blk_frozen BK285.out 3))
  go_ret
  exact ⟨ers, by repeat (first | (with_reducible first | exact HB.out | apply bwA | apply bwN | apply bwD | refine below_set ?_ GE284.out | refine below_set ?_ GE285.out) | exact HB.out)⟩

/-! ### laws_eqTermS: function 18 -/
def laws_eqTermS.l0 : Nat → List (S73) → List (S73) → Int → Option (Bool)
 | 0, _, _, _ => none
 | k + 1, x0, x1, x5 => if x5 < (x0.length : Int) then (if 0 ≤ x5 then (if x5 < (x1.length : Int) then ((laws_eqTerm.f ((rd_T73 x0 x5).f0) ((rd_T73 x0 x5).f1) ((rd_T73 x0 x5).f2) ((rd_T73 x0 x5).f3) ((rd_T73 x1 x5).f0) ((rd_T73 x1 x5).f1) ((rd_T73 x1 x5).f2) ((rd_T73 x1 x5).f3)).bind fun t288 => (if t288 = true then (laws_eqTermS.l0 k x0 x1 (wrap64 (x5 + 1))) else (some false))) else (none)) else (none)) else (some true)
def laws_eqTermS.f (k : Nat) (l0 : List (S73)) (l1 : List (S73)) : Option (Bool) := if (l0.length : Int) = (l1.length : Int) then (laws_eqTermS.l0 k l0 l1 0) else (some false)
theorem laws_eqTermS.mono_l : ∀ k, (∀ y0 y1 y2, LeO (laws_eqTermS.l0 k y0 y1 y2) (laws_eqTermS.l0 (k + 1) y0 y1 y2))
 | 0 => fun _ _ _ r h => by simp [laws_eqTermS.l0] at h
 | k + 1 => by
  have ih0 := laws_eqTermS.mono_l k
  ·intro y0 y1 y2
   unfold laws_eqTermS.l0
   repeat' first
   | (with_reducible exact ih0 _ _ _)
   | (with_reducible exact LeO.refl _)
   | (with_reducible exact LeO.none _)
   | (with_reducible refine LeO.ite ?_ ?_)
   | (with_reducible refine LeO.bind ?_ (fun _ => ?_))
   | exact ih0 _ _ _
   | exact LeO.none _
   | refine LeO.ite ?_ ?_
   | refine LeO.bind ?_ (fun _ => ?_)
theorem laws_eqTermS.mono : ∀ a0 a1 k, LeO (laws_eqTermS.f k a0 a1) (laws_eqTermS.f (k + 1) a0 a1) := by
 intro a0 a1 k
 have ih0 := laws_eqTermS.mono_l k
 unfold laws_eqTermS.f
 repeat' first
   | (with_reducible exact ih0 _ _ _)
   | (with_reducible exact LeO.refl _)
   | (with_reducible exact LeO.none _)
   | (with_reducible refine LeO.ite ?_ ?_)
   | (with_reducible refine LeO.bind ?_ (fun _ => ?_))
   | exact ih0 _ _ _
   | exact LeO.none _
   | refine LeO.ite ?_ ?_
   | refine LeO.bind ?_ (fun _ => ?_)
def laws_eqTermS.T6 : Bool × List (List Nat × List Nat) := (true, [([], []), ([], []), ([0, 1], [0, 1]), ([2], [2]), ([], []), ([], []), ([4, 5], [4, 5]), ([6], [6]), ([3, 7], [3, 7]), ([8], [8])])
def laws_eqTermS.B6 : List Nat := [0, 0, 3, 7, 0, 0, 48, 112, 255, 511]
theorem laws_eqTermS.tab6 : rtab .any (opsOf Try.f18 6) = laws_eqTermS.T6 := by kernel_rfl
theorem laws_eqTermS.bits6 : waitsOk laws_eqTermS.T6.2 laws_eqTermS.B6 = true := by kernel_rfl
set_option maxHeartbeats 8000000 in
set_option maxRecDepth 100000 in
theorem laws_eqTermS.calls (k : Nat) (A0 : Option Addr) (c0 : Nat) (l0 : List (S73)) (A1 : Option Addr) (c1 : Nat) (l1 : List (S73)) (r : Bool) (w : World) (hr0 : Kd.C k73 w A0 l0.length l0) (hc0 : l0.length ≤ c0) (hr1 : Kd.C k73 w A1 l1.length l1) (hc1 : l1.length ≤ c1) (h : laws_eqTermS.f k l0 l1 = some r) :
  Calls Try.prog 18 #[.slice A0 l0.length c0, .slice A1 l1.length c1] w fun e w' => e = .returned (.bool r) ∧ Below w.heap.size w w' := by
 have hu73 := Try.underlying73
 have HR0 := Aside0.mk hr0
 have HC0 := Aside0.mk hc0
 clear hr0 hc0
 have HR1 := Aside0.mk hr1
 have HC1 := Aside0.mk hc1
 clear hr1 hc1
 have HB := Aside0.mk (Below.refl w.heap.size w)
 have H : (if (l0.length : Int) = (l1.length : Int) then (laws_eqTermS.l0 k l0 l1 0) else (some false)) = some r := h
 clear h
 by_cases c3 : (l0.length : Int) = (l1.length : Int)
 ·rw [if_pos c3] at H
  have c3b0 : ((l0.length : Int) == (l1.length : Int)) = true := beq_iff_eq.mpr c3
  have c3b1 : ((l0.length : Int) != (l1.length : Int)) = false := bne_eq_false_iff_eq.mpr c3
  have c3b2 : (l0.length == l1.length) = true := by first | simpa using c3 | (simp at c3 ⊢; omega)
  clear c3
  have H' := Aside0.mk H
  clear H
  go_enter Try.func18, Try.ntmps18
  go_wp2
  go_loopg [5] k (fun kq v5 w' => ∃ (x5_1 : Int), v5 = .int .i64 x5_1 ∧ Aside0 (laws_eqTermS.l0 kq l0 l1 x5_1 = some r) ∧ Aside0 (kq ≤ k) ∧ Aside0 (Below w.heap.size w w'))
  case atStart => exact ⟨(0), rsd, H', ⟨Nat.le_refl _⟩, ⟨by repeat (first | (with_reducible first | exact HB.out | apply bwA | apply bwN | apply bwD) | exact HB.out)⟩⟩
  case round =>
   clear H'
   try clear c1
   try clear p2
   try clear c3
   try clear c3b0
   try clear c3b1
   try clear c3b2
   obtain ⟨x5_1, rfl, HA, HK1, HB⟩ := hrel
   cases gk with
   | zero => exact absurd HA.out (by simp [laws_eqTermS.l0])
   | succ k1 =>
    have H := HA.out
    clear HA
    simp only [laws_eqTermS.l0] at H
    by_cases c4 : x5_1 < (l0.length : Int)
    ·rw [if_pos c4] at H
     have c4b0 : decide (x5_1 < (l0.length : Int)) = true := decide_eq_true c4
     clear c4
     by_cases c5 : 0 ≤ x5_1
     ·rw [if_pos c5] at H
      have c5b0 : decide (0 ≤ x5_1) = true := decide_eq_true c5
      clear c5
      by_cases c6 : x5_1 < (l1.length : Int)
      ·rw [if_pos c6] at H
       have c6b0 : decide (x5_1 < (l1.length : Int)) = true := decide_eq_true c6
       clear c6
       replace H := Option.bind_eq_some_iff.mp H
       obtain ⟨t288, A70, H⟩ := H
       replace H : (if t288 = true then (laws_eqTermS.l0 k1 l0 l1 (wrap64 (x5_1 + 1))) else (some false)) = some r := H
       have A7 := Aside0.mk A70
       clear A70
       by_cases c8 : t288 = true
       ·subst c8
        have H1 : (laws_eqTermS.l0 k1 l0 l1 (wrap64 (x5_1 + 1))) = some r := by rw [if_pos rfl] at H; exact H
        clear H
        have H := H1
        clear H1
        have H' := Aside0.mk H
        clear H
        try go_wp2
        have n0_ := Aside0.mk (below_drew1 HB.out)
        clear HB
        have HB := n0_
        clear n0_
        have p286 : 0 ≤ (x5_1 : Int) := oda
        have q286 : x5_1 < (l0.length : Int) := oda
        obtain ⟨ad286, e286, hx286_0, hx286_1, hx286_2, hx286_3⟩ := at_T73 HR0.out x5_1 p286 q286
        have hw286_3 := hx286_3
        have hw286_2 := hx286_2
        have hw286_1 := hx286_1
        have hw286_0 := hx286_0
        cases e286
        try replace hx286_0 := bct HB.out hx286_0
        try replace hx286_1 := bct HB.out hx286_1
        try replace hx286_2 := bct HB.out hx286_2
        try replace hx286_3 := bct HB.out hx286_3
        replace p286 := eq_true p286
        replace q286 := eq_true q286
        have p287 : 0 ≤ (x5_1 : Int) := oda
        have q287 : x5_1 < (l1.length : Int) := oda
        obtain ⟨ad287, e287, hx287_0, hx287_1, hx287_2, hx287_3⟩ := at_T73 HR1.out x5_1 p287 q287
        have hw287_3 := hx287_3
        have hw287_2 := hx287_2
        have hw287_1 := hx287_1
        have hw287_0 := hx287_0
        cases e287
        try replace hx287_0 := bct HB.out hx287_0
        try replace hx287_1 := bct HB.out hx287_1
        try replace hx287_2 := bct HB.out hx287_2
        try replace hx287_3 := bct HB.out hx287_3
        replace p287 := eq_true p287
        replace q287 := eq_true q287
        refine start_ (n := 10) (S := fun w' => w'.cell? (ad286.add ((x5_1).toNat * 4)) = some (.int .i64 ((rd_T73 l0 x5_1).f0)) ∧ w'.cell? ⟨(ad286.add ((x5_1).toNat * 4)).block, (ad286.add ((x5_1).toNat * 4)).off + 1, none⟩ = some (.int .i64 ((rd_T73 l0 x5_1).f1)) ∧ w'.cell? ⟨(ad286.add ((x5_1).toNat * 4)).block, (ad286.add ((x5_1).toNat * 4)).off + 2, none⟩ = some (.int .i64 ((rd_T73 l0 x5_1).f2)) ∧ w'.cell? ⟨(ad286.add ((x5_1).toNat * 4)).block, (ad286.add ((x5_1).toNat * 4)).off + 3, none⟩ = some (.int .i64 ((rd_T73 l0 x5_1).f3)) ∧ w'.cell? (ad287.add ((x5_1).toNat * 4)) = some (.int .i64 ((rd_T73 l1 x5_1).f0)) ∧ w'.cell? ⟨(ad287.add ((x5_1).toNat * 4)).block, (ad287.add ((x5_1).toNat * 4)).off + 1, none⟩ = some (.int .i64 ((rd_T73 l1 x5_1).f1)) ∧ w'.cell? ⟨(ad287.add ((x5_1).toNat * 4)).block, (ad287.add ((x5_1).toNat * 4)).off + 2, none⟩ = some (.int .i64 ((rd_T73 l1 x5_1).f2)) ∧ w'.cell? ⟨(ad287.add ((x5_1).toNat * 4)).block, (ad287.add ((x5_1).toNat * 4)).off + 3, none⟩ = some (.int .i64 ((rd_T73 l1 x5_1).f3))) (ds := []) #[false, false, false, false, false, false, false, false, false, false] (by kernel_rfl) rfl rfl ⟨((HB.out.cell (World.block_lt_of_cell? w _ hw286_0)).trans hw286_0), ((HB.out.cell (World.block_lt_of_cell? w _ hw286_1)).trans hw286_1), ((HB.out.cell (World.block_lt_of_cell? w _ hw286_2)).trans hw286_2), ((HB.out.cell (World.block_lt_of_cell? w _ hw286_3)).trans hw286_3), ((HB.out.cell (World.block_lt_of_cell? w _ hw287_0)).trans hw287_0), ((HB.out.cell (World.block_lt_of_cell? w _ hw287_1)).trans hw287_1), ((HB.out.cell (World.block_lt_of_cell? w _ hw287_2)).trans hw287_2), ((HB.out.cell (World.block_lt_of_cell? w _ hw287_3)).trans hw287_3)⟩ (fun hHeld => ?_); refine with_tabW laws_eqTermS.tab6 laws_eqTermS.bits6 (fun HT_ HW_ => ?_)
        generalize wr.drew = w9 at HB hx286_0 hx286_1 hx286_2 hx286_3 hx287_0 hx287_1 hx287_2 hx287_3 hHeld ⊢
        refine pure_ (i := 0) (N := some 17) (v := ?_) (a' := ?_) #[true, false, false, false, false, false, false, false, false, false] rfl rfl (any_of HT_.out (by kernel_rfl)) (fun _ _ _ h => h) (Or.inl ⟨by rfl, ?_⟩) ?_ ?_
        rotate_left
        ·intro w'
         go_simp
         with_reducible rfl
        rotate_left
        ·simp only [Act.put, List.setIfInBounds_toArray, List.set_cons_zero, List.set_cons_succ, i64_w, i32_w]
         rfl
        refine pure_ (i := 1) (N := some 18) (v := ?_) (a' := ?_) #[true, true, false, false, false, false, false, false, false, false] rfl rfl (any_of HT_.out (by kernel_rfl)) (fun _ _ _ h => h) (Or.inl ⟨by rfl, ?_⟩) ?_ ?_
        rotate_left
        ·intro w'
         go_simp
         with_reducible rfl
        rotate_left
        ·simp only [Act.put, List.setIfInBounds_toArray, List.set_cons_zero, List.set_cons_succ, i64_w, i32_w]
         rfl
        refine pure_ (i := 2) (N := some 19) (v := ?_) (a' := ?_) #[true, true, true, false, false, false, false, false, false, false] rfl rfl (any_of HT_.out (by kernel_rfl)) (fun _ _ _ h => h) (Or.inl ⟨by rfl, ?_⟩) ?_ ?_
        rotate_left
        ·intro w'
         go_simp
         with_reducible rfl
        rotate_left
        ·simp only [Act.put, List.setIfInBounds_toArray, List.set_cons_zero, List.set_cons_succ, i64_w, i32_w]
         rfl
        refine pure_ (i := 4) (N := some 21) (v := ?_) (a' := ?_) #[true, true, true, false, true, false, false, false, false, false] rfl rfl (any_of HT_.out (by kernel_rfl)) (fun _ _ _ h => h) (Or.inl ⟨by rfl, ?_⟩) ?_ ?_
        rotate_left
        ·intro w'
         go_simp
         with_reducible rfl
        rotate_left
        ·simp only [Act.put, List.setIfInBounds_toArray, List.set_cons_zero, List.set_cons_succ, i64_w, i32_w]
         rfl
        refine pure_ (i := 5) (N := some 22) (v := ?_) (a' := ?_) #[true, true, true, false, true, true, false, false, false, false] rfl rfl (any_of HT_.out (by kernel_rfl)) (fun _ _ _ h => h) (Or.inl ⟨by rfl, ?_⟩) ?_ ?_
        rotate_left
        ·intro w'
         go_simp
         with_reducible rfl
        rotate_left
        ·simp only [Act.put, List.setIfInBounds_toArray, List.set_cons_zero, List.set_cons_succ, i64_w, i32_w]
         rfl
        refine pure_ (i := 6) (N := some 23) (v := ?_) (a' := ?_) #[true, true, true, false, true, true, true, false, false, false] rfl rfl (any_of HT_.out (by kernel_rfl)) (fun _ _ _ h => h) (Or.inl ⟨by rfl, ?_⟩) ?_ ?_
        rotate_left
        ·intro w'
         go_simp
         with_reducible rfl
        rotate_left
        ·simp only [Act.put, List.setIfInBounds_toArray, List.set_cons_zero, List.set_cons_succ, i64_w, i32_w]
         rfl
        refine take_ (i := 3) (N := some 20) (v := ?_) (a' := ?_) #[true, true, true, true, true, true, true, false, false, false] rfl rfl (take_ofW HT_.out HW_.out (by kernel_rfl)) (fun _ _ _ h => h) (Or.inl ⟨by rfl, ?_⟩) hHeld ?_ ?_
        rotate_left
        ·rintro w' ⟨s0, s1, s2, s3, s4, s5, s6, s7⟩
         go_simp
         with_reducible rfl
        rotate_left
        ·simp only [Act.put, List.setIfInBounds_toArray, List.set_cons_zero, List.set_cons_succ, i64_w, i32_w]
         rfl
        refine take_ (i := 7) (N := some 24) (v := ?_) (a' := ?_) #[true, true, true, true, true, true, true, true, false, false] rfl rfl (take_ofW HT_.out HW_.out (by kernel_rfl)) (fun _ _ _ h => h) (Or.inl ⟨by rfl, ?_⟩) hHeld ?_ ?_
        rotate_left
        ·rintro w' ⟨s0, s1, s2, s3, s4, s5, s6, s7⟩
         go_simp
         with_reducible rfl
        rotate_left
        ·simp only [Act.put, List.setIfInBounds_toArray, List.set_cons_zero, List.set_cons_succ, i64_w, i32_w]
         rfl
        refine one_ (i := 8) (N := some 25) #[true, true, true, true, true, true, true, true, true, false] rfl rfl (one_of HT_.out (by kernel_rfl)) (by decide) (fun K hK => ?_)
        refine goes_ Try.func58 (by kernel_rfl) rfl #[.agg #[.int .i64 ((rd_T73 l0 x5_1).f0), .int .i64 ((rd_T73 l0 x5_1).f1), .int .i64 ((rd_T73 l0 x5_1).f2), .int .i64 ((rd_T73 l0 x5_1).f3)], .agg #[.int .i64 ((rd_T73 l1 x5_1).f0), .int .i64 ((rd_T73 l1 x5_1).f1), .int .i64 ((rd_T73 l1 x5_1).f2), .int .i64 ((rd_T73 l1 x5_1).f3)]] (by rfl) rfl rfl lmB ?_
        with_reducible refine (laws_eqTerm.calls ((rd_T73 l0 x5_1).f0) ((rd_T73 l0 x5_1).f1) ((rd_T73 l0 x5_1).f2) ((rd_T73 l0 x5_1).f3) ((rd_T73 l1 x5_1).f0) ((rd_T73 l1 x5_1).f1) ((rd_T73 l1 x5_1).f2) ((rd_T73 l1 x5_1).f3) true _ A7.out).mono ?_
        rintro e w10 ⟨rfl, hb⟩
        refine ⟨_, rfl, ?_⟩
        have n0_ := Aside0.mk (below_step (by repeat (first | (with_reducible first | exact HB.out | apply bwA | apply bwN | apply bwD) | exact HB.out)) hb)
        clear HB
        have HB := n0_
        clear n0_
        (try clear hb)
        (try clear hb2)
        (try clear hk)
        (try clear hi)
        refine hK.out _ _ ⟨((HB.out.cell (World.block_lt_of_cell? w _ hw286_0)).trans hw286_0), ((HB.out.cell (World.block_lt_of_cell? w _ hw286_1)).trans hw286_1), ((HB.out.cell (World.block_lt_of_cell? w _ hw286_2)).trans hw286_2), ((HB.out.cell (World.block_lt_of_cell? w _ hw286_3)).trans hw286_3), ((HB.out.cell (World.block_lt_of_cell? w _ hw287_0)).trans hw287_0), ((HB.out.cell (World.block_lt_of_cell? w _ hw287_1)).trans hw287_1), ((HB.out.cell (World.block_lt_of_cell? w _ hw287_2)).trans hw287_2), ((HB.out.cell (World.block_lt_of_cell? w _ hw287_3)).trans hw287_3)⟩ (fun hHeld => ?_)
        clear hK K
        refine norm_ (a' := ?_) ?_ ?_
        rotate_left
        ·show Act.put _ (some 25) _ = _
         simp only [Act.put, List.setIfInBounds_toArray, List.set_cons_zero, List.set_cons_succ, i64_w, i32_w]
         rfl
        refine pure_ (i := 9) (N := some 26) (v := ?_) (a' := ?_) #[true, true, true, true, true, true, true, true, true, true] rfl rfl (any_of HT_.out (by kernel_rfl)) (fun _ _ _ h => h) (Or.inl ⟨by rfl, ?_⟩) ?_ ?_
        rotate_left
        ·intro w'
         go_simp
         with_reducible rfl
        rotate_left
        ·simp only [Act.put, List.setIfInBounds_toArray, List.set_cons_zero, List.set_cons_succ, i64_w, i32_w]
         rfl
        refine done_ (done_of HT_.out (by kernel_rfl)) ?_
        try go_wp2
        go_roundg k1
        case measure => have := HK1.out; omega
        case rel => exact ⟨(wrap64 (x5_1 + 1)), rsd, H', ⟨by have := HK1.out; omega⟩, ⟨by repeat (first | (with_reducible first | exact HB.out | apply bwA | apply bwN | apply bwD) | exact HB.out)⟩⟩
       ·replace c8 := Bool.eq_false_iff.mpr c8
        subst c8
        have H1 : (some false) = some r := by rw [if_neg (show ¬ (false = true) by decide)] at H; exact H
        clear H
        have H := H1
        clear H1
        obtain rfl := Option.some.inj H
        try go_wp2
        have n0_ := Aside0.mk (below_drew1 HB.out)
        clear HB
        have HB := n0_
        clear n0_
        have p286 : 0 ≤ (x5_1 : Int) := oda
        have q286 : x5_1 < (l0.length : Int) := oda
        obtain ⟨ad286, e286, hx286_0, hx286_1, hx286_2, hx286_3⟩ := at_T73 HR0.out x5_1 p286 q286
        have hw286_3 := hx286_3
        have hw286_2 := hx286_2
        have hw286_1 := hx286_1
        have hw286_0 := hx286_0
        cases e286
        try replace hx286_0 := bct HB.out hx286_0
        try replace hx286_1 := bct HB.out hx286_1
        try replace hx286_2 := bct HB.out hx286_2
        try replace hx286_3 := bct HB.out hx286_3
        replace p286 := eq_true p286
        replace q286 := eq_true q286
        have p287 : 0 ≤ (x5_1 : Int) := oda
        have q287 : x5_1 < (l1.length : Int) := oda
        obtain ⟨ad287, e287, hx287_0, hx287_1, hx287_2, hx287_3⟩ := at_T73 HR1.out x5_1 p287 q287
        have hw287_3 := hx287_3
        have hw287_2 := hx287_2
        have hw287_1 := hx287_1
        have hw287_0 := hx287_0
        cases e287
        try replace hx287_0 := bct HB.out hx287_0
        try replace hx287_1 := bct HB.out hx287_1
        try replace hx287_2 := bct HB.out hx287_2
        try replace hx287_3 := bct HB.out hx287_3
        replace p287 := eq_true p287
        replace q287 := eq_true q287
        refine start_ (n := 10) (S := fun w' => w'.cell? (ad286.add ((x5_1).toNat * 4)) = some (.int .i64 ((rd_T73 l0 x5_1).f0)) ∧ w'.cell? ⟨(ad286.add ((x5_1).toNat * 4)).block, (ad286.add ((x5_1).toNat * 4)).off + 1, none⟩ = some (.int .i64 ((rd_T73 l0 x5_1).f1)) ∧ w'.cell? ⟨(ad286.add ((x5_1).toNat * 4)).block, (ad286.add ((x5_1).toNat * 4)).off + 2, none⟩ = some (.int .i64 ((rd_T73 l0 x5_1).f2)) ∧ w'.cell? ⟨(ad286.add ((x5_1).toNat * 4)).block, (ad286.add ((x5_1).toNat * 4)).off + 3, none⟩ = some (.int .i64 ((rd_T73 l0 x5_1).f3)) ∧ w'.cell? (ad287.add ((x5_1).toNat * 4)) = some (.int .i64 ((rd_T73 l1 x5_1).f0)) ∧ w'.cell? ⟨(ad287.add ((x5_1).toNat * 4)).block, (ad287.add ((x5_1).toNat * 4)).off + 1, none⟩ = some (.int .i64 ((rd_T73 l1 x5_1).f1)) ∧ w'.cell? ⟨(ad287.add ((x5_1).toNat * 4)).block, (ad287.add ((x5_1).toNat * 4)).off + 2, none⟩ = some (.int .i64 ((rd_T73 l1 x5_1).f2)) ∧ w'.cell? ⟨(ad287.add ((x5_1).toNat * 4)).block, (ad287.add ((x5_1).toNat * 4)).off + 3, none⟩ = some (.int .i64 ((rd_T73 l1 x5_1).f3))) (ds := []) #[false, false, false, false, false, false, false, false, false, false] (by kernel_rfl) rfl rfl ⟨((HB.out.cell (World.block_lt_of_cell? w _ hw286_0)).trans hw286_0), ((HB.out.cell (World.block_lt_of_cell? w _ hw286_1)).trans hw286_1), ((HB.out.cell (World.block_lt_of_cell? w _ hw286_2)).trans hw286_2), ((HB.out.cell (World.block_lt_of_cell? w _ hw286_3)).trans hw286_3), ((HB.out.cell (World.block_lt_of_cell? w _ hw287_0)).trans hw287_0), ((HB.out.cell (World.block_lt_of_cell? w _ hw287_1)).trans hw287_1), ((HB.out.cell (World.block_lt_of_cell? w _ hw287_2)).trans hw287_2), ((HB.out.cell (World.block_lt_of_cell? w _ hw287_3)).trans hw287_3)⟩ (fun hHeld => ?_); refine with_tabW laws_eqTermS.tab6 laws_eqTermS.bits6 (fun HT_ HW_ => ?_)
        generalize wr.drew = w11 at HB hx286_0 hx286_1 hx286_2 hx286_3 hx287_0 hx287_1 hx287_2 hx287_3 hHeld ⊢
        refine pure_ (i := 0) (N := some 17) (v := ?_) (a' := ?_) #[true, false, false, false, false, false, false, false, false, false] rfl rfl (any_of HT_.out (by kernel_rfl)) (fun _ _ _ h => h) (Or.inl ⟨by rfl, ?_⟩) ?_ ?_
        rotate_left
        ·intro w'
         go_simp
         with_reducible rfl
        rotate_left
        ·simp only [Act.put, List.setIfInBounds_toArray, List.set_cons_zero, List.set_cons_succ, i64_w, i32_w]
         rfl
        refine pure_ (i := 1) (N := some 18) (v := ?_) (a' := ?_) #[true, true, false, false, false, false, false, false, false, false] rfl rfl (any_of HT_.out (by kernel_rfl)) (fun _ _ _ h => h) (Or.inl ⟨by rfl, ?_⟩) ?_ ?_
        rotate_left
        ·intro w'
         go_simp
         with_reducible rfl
        rotate_left
        ·simp only [Act.put, List.setIfInBounds_toArray, List.set_cons_zero, List.set_cons_succ, i64_w, i32_w]
         rfl
        refine pure_ (i := 2) (N := some 19) (v := ?_) (a' := ?_) #[true, true, true, false, false, false, false, false, false, false] rfl rfl (any_of HT_.out (by kernel_rfl)) (fun _ _ _ h => h) (Or.inl ⟨by rfl, ?_⟩) ?_ ?_
        rotate_left
        ·intro w'
         go_simp
         with_reducible rfl
        rotate_left
        ·simp only [Act.put, List.setIfInBounds_toArray, List.set_cons_zero, List.set_cons_succ, i64_w, i32_w]
         rfl
        refine pure_ (i := 4) (N := some 21) (v := ?_) (a' := ?_) #[true, true, true, false, true, false, false, false, false, false] rfl rfl (any_of HT_.out (by kernel_rfl)) (fun _ _ _ h => h) (Or.inl ⟨by rfl, ?_⟩) ?_ ?_
        rotate_left
        ·intro w'
         go_simp
         with_reducible rfl
        rotate_left
        ·simp only [Act.put, List.setIfInBounds_toArray, List.set_cons_zero, List.set_cons_succ, i64_w, i32_w]
         rfl
        refine pure_ (i := 5) (N := some 22) (v := ?_) (a' := ?_) #[true, true, true, false, true, true, false, false, false, false] rfl rfl (any_of HT_.out (by kernel_rfl)) (fun _ _ _ h => h) (Or.inl ⟨by rfl, ?_⟩) ?_ ?_
        rotate_left
        ·intro w'
         go_simp
         with_reducible rfl
        rotate_left
        ·simp only [Act.put, List.setIfInBounds_toArray, List.set_cons_zero, List.set_cons_succ, i64_w, i32_w]
         rfl
        refine pure_ (i := 6) (N := some 23) (v := ?_) (a' := ?_) #[true, true, true, false, true, true, true, false, false, false] rfl rfl (any_of HT_.out (by kernel_rfl)) (fun _ _ _ h => h) (Or.inl ⟨by rfl, ?_⟩) ?_ ?_
        rotate_left
        ·intro w'
         go_simp
         with_reducible rfl
        rotate_left
        ·simp only [Act.put, List.setIfInBounds_toArray, List.set_cons_zero, List.set_cons_succ, i64_w, i32_w]
         rfl
        refine take_ (i := 3) (N := some 20) (v := ?_) (a' := ?_) #[true, true, true, true, true, true, true, false, false, false] rfl rfl (take_ofW HT_.out HW_.out (by kernel_rfl)) (fun _ _ _ h => h) (Or.inl ⟨by rfl, ?_⟩) hHeld ?_ ?_
        rotate_left
        ·rintro w' ⟨s0, s1, s2, s3, s4, s5, s6, s7⟩
         go_simp
         with_reducible rfl
        rotate_left
        ·simp only [Act.put, List.setIfInBounds_toArray, List.set_cons_zero, List.set_cons_succ, i64_w, i32_w]
         rfl
        refine take_ (i := 7) (N := some 24) (v := ?_) (a' := ?_) #[true, true, true, true, true, true, true, true, false, false] rfl rfl (take_ofW HT_.out HW_.out (by kernel_rfl)) (fun _ _ _ h => h) (Or.inl ⟨by rfl, ?_⟩) hHeld ?_ ?_
        rotate_left
        ·rintro w' ⟨s0, s1, s2, s3, s4, s5, s6, s7⟩
         go_simp
         with_reducible rfl
        rotate_left
        ·simp only [Act.put, List.setIfInBounds_toArray, List.set_cons_zero, List.set_cons_succ, i64_w, i32_w]
         rfl
        refine one_ (i := 8) (N := some 25) #[true, true, true, true, true, true, true, true, true, false] rfl rfl (one_of HT_.out (by kernel_rfl)) (by decide) (fun K hK => ?_)
        refine goes_ Try.func58 (by kernel_rfl) rfl #[.agg #[.int .i64 ((rd_T73 l0 x5_1).f0), .int .i64 ((rd_T73 l0 x5_1).f1), .int .i64 ((rd_T73 l0 x5_1).f2), .int .i64 ((rd_T73 l0 x5_1).f3)], .agg #[.int .i64 ((rd_T73 l1 x5_1).f0), .int .i64 ((rd_T73 l1 x5_1).f1), .int .i64 ((rd_T73 l1 x5_1).f2), .int .i64 ((rd_T73 l1 x5_1).f3)]] (by rfl) rfl rfl lmB ?_
        with_reducible refine (laws_eqTerm.calls ((rd_T73 l0 x5_1).f0) ((rd_T73 l0 x5_1).f1) ((rd_T73 l0 x5_1).f2) ((rd_T73 l0 x5_1).f3) ((rd_T73 l1 x5_1).f0) ((rd_T73 l1 x5_1).f1) ((rd_T73 l1 x5_1).f2) ((rd_T73 l1 x5_1).f3) false _ A7.out).mono ?_
        rintro e w12 ⟨rfl, hb⟩
        refine ⟨_, rfl, ?_⟩
        have n0_ := Aside0.mk (below_step (by repeat (first | (with_reducible first | exact HB.out | apply bwA | apply bwN | apply bwD) | exact HB.out)) hb)
        clear HB
        have HB := n0_
        clear n0_
        (try clear hb)
        (try clear hb2)
        (try clear hk)
        (try clear hi)
        refine hK.out _ _ ⟨((HB.out.cell (World.block_lt_of_cell? w _ hw286_0)).trans hw286_0), ((HB.out.cell (World.block_lt_of_cell? w _ hw286_1)).trans hw286_1), ((HB.out.cell (World.block_lt_of_cell? w _ hw286_2)).trans hw286_2), ((HB.out.cell (World.block_lt_of_cell? w _ hw286_3)).trans hw286_3), ((HB.out.cell (World.block_lt_of_cell? w _ hw287_0)).trans hw287_0), ((HB.out.cell (World.block_lt_of_cell? w _ hw287_1)).trans hw287_1), ((HB.out.cell (World.block_lt_of_cell? w _ hw287_2)).trans hw287_2), ((HB.out.cell (World.block_lt_of_cell? w _ hw287_3)).trans hw287_3)⟩ (fun hHeld => ?_)
        clear hK K
        refine norm_ (a' := ?_) ?_ ?_
        rotate_left
        ·show Act.put _ (some 25) _ = _
         simp only [Act.put, List.setIfInBounds_toArray, List.set_cons_zero, List.set_cons_succ, i64_w, i32_w]
         rfl
        refine pure_ (i := 9) (N := some 26) (v := ?_) (a' := ?_) #[true, true, true, true, true, true, true, true, true, true] rfl rfl (any_of HT_.out (by kernel_rfl)) (fun _ _ _ h => h) (Or.inl ⟨by rfl, ?_⟩) ?_ ?_
        rotate_left
        ·intro w'
         go_simp
         with_reducible rfl
        rotate_left
        ·simp only [Act.put, List.setIfInBounds_toArray, List.set_cons_zero, List.set_cons_succ, i64_w, i32_w]
         rfl
        refine done_ (done_of HT_.out (by kernel_rfl)) ?_
        try go_wp2
        go_ret
        exact ⟨ers, by repeat (first | (with_reducible first | exact HB.out | apply bwA | apply bwN | apply bwD) | exact HB.out)⟩
      ·rw [if_neg c6] at H
       exact absurd H (by simp)
     ·rw [if_neg c5] at H
      exact absurd H (by simp)
    ·rw [if_neg c4] at H
     have c4b0 : decide (x5_1 < (l0.length : Int)) = false := decide_eq_false c4
     clear c4
     obtain rfl := Option.some.inj H
     go_wp2
     go_ret
     exact ⟨ers, by repeat (first | (with_reducible first | exact HB.out | apply bwA | apply bwN | apply bwD) | exact HB.out)⟩
 ·rw [if_neg c3] at H
  have c3b0 : ((l0.length : Int) == (l1.length : Int)) = false := beq_eq_false_iff_ne.mpr c3
  have c3b1 : ((l0.length : Int) != (l1.length : Int)) = true := bne_iff_ne.mpr c3
  have c3b2 : (l0.length == l1.length) = false := by first | simpa using c3 | (simp at c3 ⊢; omega)
  obtain rfl := Option.some.inj H
  go_enter Try.func18, Try.ntmps18
  go_wp2
  go_ret
  exact ⟨ers, by repeat (first | (with_reducible first | exact HB.out | apply bwA | apply bwN | apply bwD) | exact HB.out)⟩

end Go.Proofs.Ytpfkgmcbogcmoaa.QFnExactSizeOf
