-- Written by a program of this session (mk.py). Lean checks it.
import Derived.Test.YtpcckoljocpchaaQFnAddPickx0
import Derived.Test.YtpcckoljocpchaaQFnAddPickx6
namespace Go.Proofs.Ytpcckoljocpchaa.QFnAddPick
open Go.RowKit Go.Proofs.YtpcckoljocpchaaW.PrintWords Go.Proofs.YtpcckoljocpchaaW.PrintLast Go.Proofs.YtpcckoljocpchaaW.PrintMore
attribute [local go_sem] max2_int min2_int max_two min_two max_three min_three max_four min_four   -- for this text's walks alone
set_option linter.unusedVariables false
set_option linter.unusedSimpArgs false

/-! ### impl_builder_and: function 77 -/
def impl_builder_and.put (s : BS) (a b : Int) : Option (BS × Int) :=
 if okA ⟨a, b⟩ then
  match s.seen ⟨a, b⟩ with
  | some n => some (s, n)
  | none => if 600 ≤ (s.gates.length : Int) then some ({ s with full := true }, 0) else some ({ s with gates := s.gates ++ [⟨a, b⟩], seen := fun y => if y = ⟨a, b⟩ then some (wrap64 (2 * (wrap64 (s.inputs + ((s.gates.length : Int) + 1))))) else s.seen y }, wrap64 (2 * (wrap64 (s.inputs + ((s.gates.length : Int) + 1)))))
 else none
def impl_builder_and.f (s : BS) (x y : Int) : Option (BS × Int) :=
 if (if y < x then y else x) = 0 then some (s, 0) else if Go.bits .xor .i64 (if y < x then y else x) 1 = (if x < y then y else x) then some (s, 0) else if (if y < x then y else x) = 1 then some (s, if x < y then y else x) else if (if y < x then y else x) = (if x < y then y else x) then some (s, if x < y then y else x) else impl_builder_and.put s (if y < x then y else x) (if x < y then y else x)
set_option maxHeartbeats 4000000 in
set_option maxRecDepth 100000 in
theorem impl_builder_and.calls (s s' : BS) (x y r : Int) (ok : Nat → Prop) (g : Nat) (w0 w : World) (hB : Below w0.heap.size w0 w) (hI : IsB w w0.heap.size ok g s) (hf : ∀ k, w.heap.size ≤ k → ok k) (h : impl_builder_and.f s x y = some (s', r)) :
  Calls Try.prog 77 #[.pointer (some ⟨g, 0, none⟩), .int .i64 x, .int .i64 y] w fun e w' => e = .returned (.int .i64 r) ∧ IsB w' w0.heap.size ok g s' ∧ Below w0.heap.size w0 w' ∧ Kept w w' ok := by
 have hu28 := Try.underlying28
 have hu92 := Try.underlying92
 have hu117 := Try.underlying117
 have HI := Aside0.mk hI
 have HB := Aside0.mk hB
 have HF := Aside0.mk hf
 unfold impl_builder_and.f at h
 clear hI hB hf
 obtain ⟨a, hmn⟩ : ∃ a, (if y < x then y else x) = a := ⟨_, rfl⟩
 obtain ⟨b, hmx⟩ : ∃ b, (if x < y then y else x) = b := ⟨_, rfl⟩
 rw [hmn, hmx] at h
 by_cases c1 : a = 0
 ·rw [if_pos c1] at h
  obtain ⟨rfl, rfl⟩ := Prod.mk.inj (Option.some.inj h)
  have c1b : (a == 0) = true := beq_iff_eq.mpr c1
  clear h c1
  go_enter Try.func77, Try.ntmps77
  go_wp2
  go_ret
  exact ⟨rfl, HI.out, HB.out, Kept.refl _ _⟩
 rw [if_neg c1] at h
 have c1b : (a == 0) = false := beq_eq_false_iff_ne.mpr c1
 clear c1
 by_cases c2 : Go.bits .xor .i64 a 1 = b
 ·rw [if_pos c2] at h
  obtain ⟨rfl, rfl⟩ := Prod.mk.inj (Option.some.inj h)
  have c2b : (Go.bits .xor .i64 a 1 == b) = true := beq_iff_eq.mpr c2
  clear h c2
  go_enter Try.func77, Try.ntmps77
  go_wp2
  go_ret
  exact ⟨rfl, HI.out, HB.out, Kept.refl _ _⟩
 rw [if_neg c2] at h
 have c2b : (Go.bits .xor .i64 a 1 == b) = false := beq_eq_false_iff_ne.mpr c2
 clear c2
 by_cases c3 : a = 1
 ·rw [if_pos c3] at h
  obtain ⟨rfl, rfl⟩ := Prod.mk.inj (Option.some.inj h)
  have c3b : (a == 1) = true := beq_iff_eq.mpr c3
  clear h c3
  go_enter Try.func77, Try.ntmps77
  go_wp2
  go_ret
  exact ⟨rfl, HI.out, HB.out, Kept.refl _ _⟩
 rw [if_neg c3] at h
 have c3b : (a == 1) = false := beq_eq_false_iff_ne.mpr c3
 clear c3
 by_cases c4 : a = b
 ·rw [if_pos c4] at h
  obtain ⟨rfl, rfl⟩ := Prod.mk.inj (Option.some.inj h)
  have c4b : (a == b) = true := beq_iff_eq.mpr c4
  clear h c4
  go_enter Try.func77, Try.ntmps77
  go_wp2
  go_ret
  exact ⟨rfl, HI.out, HB.out, Kept.refl _ _⟩
 rw [if_neg c4] at h
 have c4b : (a == b) = false := beq_eq_false_iff_ne.mpr c4
 clear c4
 unfold impl_builder_and.put at h
 by_cases c5 : okA ⟨a, b⟩
 ·rw [if_pos c5] at h
  have C2 := Aside0.mk c5
  have H := Aside0.mk h
  clear c5 h
  obtain ⟨u, b1, hg, hR, hM1, k1, k2, k3, k4⟩ := HI.out
  obtain ⟨A, c, rfl⟩ := Kd.R_slice hR
  have BG := Aside0.mk hg
  have HR := Aside0.mk hR
  have M1 := Aside0.mk hM1
  have KS := Aside0.mk (And.intro k1 (And.intro k2 (And.intro k3 k4)))
  clear hg hR hM1 k1 k2 k3 k4
  go_enter Try.func77, Try.ntmps77
  go_wp2_with ((with_reducible refine gate_dst (N := 7) rfl ?_); refine box_event ?hg (N := 7) ?hd (cs := #[.int .i64 0, .int .i64 0]) (t := 92) ?hr ?_; (case hd => rfl); (case hg => rfl); (case hr => first | (go_simp; done) | (go_simp; rfl)); intro gb hgb w3 hbox hb; have BX0 := Aside0.mk hbox; have HB3 := Aside0.mk hb; have hz0 : w3.cell? ⟨gb, 0, none⟩ = some (.int .i64 0) := (blk_cell BX0.out 0).trans rfl; have hz1 : w3.cell? ⟨gb, 1, none⟩ = some (.int .i64 0) := (blk_cell BX0.out 1).trans rfl; have hy0 := blk_frozen BX0.out 0; have hy1 := blk_frozen BX0.out 1; have HGB := Aside0.mk hgb; clear hgb hbox hb)
  have n0 : Aside0 (Below w.heap.size w ((w3.setCell ⟨gb, 0, none⟩ (.int .i64 a)).setCell ⟨gb, 1, none⟩ (.int .i64 b))) := ⟨below_set (below_set HB3.out (Nat.le_of_eq HGB.out.symm)) (Nat.le_of_eq HGB.out.symm)⟩
  have n1 : Aside0 (((w3.setCell ⟨gb, 0, none⟩ (.int .i64 a)).setCell ⟨gb, 1, none⟩ (.int .i64 b)).heap[gb]? = some (.cells #[.int .i64 a, .int .i64 b] 92 (0, 0))) := ⟨blk_put (blk_put BX0.out 0 _ rfl) 1 _ rfl⟩
  generalize ((w3.setCell ⟨gb, 0, none⟩ (.int .i64 a)).setCell ⟨gb, 1, none⟩ (.int .i64 b)) = w4 at n0 n1 ⊢
  clear hz0 hz1 hy0 hy1 BX0 HB3
  have HB4 := n0
  have BX := n1
  have BG4 := Aside0.mk (blk_below BG.out HB4.out)
  have M4 := Aside0.mk (M1.out.below HB4.out)
  clear n0 n1
  refine start_ (n := 11) (S := fun w' => w'.cell? ⟨g, 2, none⟩ = some (.map (some b1)) ∧ w'.cell? ⟨gb, 0, none⟩ = some (.int .i64 a) ∧ w'.cell? ⟨gb, 1, none⟩ = some (.int .i64 b) ∧ Mp.Is ekA okA (Value.int .i64) w' b1 s.seen) (ds := []) (Pt.bm 11 0) (by kernel_rfl) rfl rfl ⟨(blk_cell BG4.out 2).trans rfl, (blk_cell BX.out 0).trans rfl, (blk_cell BX.out 1).trans rfl, M4.out.drew⟩ (fun hHeld => ?_)
  refine Pt.pu 0 (some 39) (Pt.bm 11 1) (by kernel_rfl) ?_
  refine Pt.pu 1 (some 40) (Pt.bm 11 3) (by kernel_rfl) ?_
  refine Pt.pu 2 (some 41) (Pt.bm 11 7) (by kernel_rfl) ?_
  refine Pt.tk 3 (some 42) (Pt.bm 11 15) rfl rfl (by kernel_rfl) hHeld (Or.inl ⟨by rfl, by rintro w' ⟨s0, s1, s2, sM⟩; go_simp; with_reducible rfl⟩) ?_
  refine Pt.tk 4 (some 43) (Pt.bm 11 31) rfl rfl (by kernel_rfl) hHeld (Or.inl ⟨by rfl, by rintro w' ⟨s0, s1, s2, sM⟩; go_simp; with_reducible rfl⟩) ?_
  cases hs : s.seen ⟨a, b⟩ with
  | some n =>
   have H2 := H.out
   rw [hs] at H2
   obtain ⟨rfl, rfl⟩ := Prod.mk.inj (Option.some.inj H2)
   clear H H2
   refine Pt.tk 5 (some 44) (Pt.bm 11 63) rfl rfl (by kernel_rfl) hHeld (Or.inl ⟨by rfl, by rintro w' ⟨s0, s1, s2, sM⟩; exact Mp.run_some (.tmp 42) (.tmp 43) rfl rfl sM keyA Try.underlying115 zero_int ⟨a, b⟩ rfl C2.out hs⟩) ?_
   refine Pt.pu 6 (some 38) (Pt.bm 11 127) (by kernel_rfl) ?_
   refine Pt.pu 7 (some 45) (Pt.bm 11 255) (by kernel_rfl) ?_
   refine Pt.pu 8 (some 46) (Pt.bm 11 511) (by kernel_rfl) ?_
   refine Pt.pu 9 (some 8) (Pt.bm 11 1023) (by kernel_rfl) ?_
   refine Pt.pu 10 (some 9) (Pt.bm 11 2047) (by kernel_rfl) ?_
   refine done_ (by kernel_rfl) ?_
   go_wp2
   go_ret
   have HB5 := below_step HB4.out (below_drew (Below.refl _ _))
   exact ⟨rfl, HI.out.below HB5, below_then HB.out HB.out.size HB5, Kept.of_below HB5 _⟩
  | none =>
   have H2 := H.out
   rw [hs] at H2
   clear H
   refine Pt.tk 5 (some 44) (Pt.bm 11 63) rfl rfl (by kernel_rfl) hHeld (Or.inl ⟨by rfl, by rintro w' ⟨s0, s1, s2, sM⟩; exact Mp.run_none (.tmp 42) (.tmp 43) rfl rfl sM keyA Try.underlying115 zero_int ⟨a, b⟩ rfl C2.out hs⟩) ?_
   refine Pt.pu 6 (some 38) (Pt.bm 11 127) (by kernel_rfl) ?_
   refine Pt.pu 7 (some 45) (Pt.bm 11 255) (by kernel_rfl) ?_
   refine Pt.pu 8 (some 46) (Pt.bm 11 511) (by kernel_rfl) ?_
   refine Pt.pu 9 (some 8) (Pt.bm 11 1023) (by kernel_rfl) ?_
   refine Pt.pu 10 (some 9) (Pt.bm 11 2047) (by kernel_rfl) ?_
   refine done_ (by kernel_rfl) ?_
   clear hHeld
   have hd1 : Below w4.heap.size w4 w4.drew := below_drew (Below.refl _ _)
   have n0 := Aside0.mk (below_step HB4.out hd1)
   have n1 := Aside0.mk (blk_drew BX.out)
   generalize w4.drew = w5 at n0 n1 ⊢
   clear HB4 BX BG4 M4 hd1
   have HB5 := n0
   have BX5 := n1
   clear n0 n1
   have BG5 := Aside0.mk (blk_below BG.out HB5.out)
   have M5 := Aside0.mk (M1.out.below HB5.out)
   have hg1 : w5.cell? ⟨g, 1, none⟩ = some (.slice A s.gates.length c) := (blk_cell BG5.out 1).trans rfl
   have hg3 : w5.cell? ⟨g, 3, none⟩ = some (.bool s.full) := (blk_cell BG5.out 3).trans rfl
   have hf3 := blk_frozen BG5.out 3
   by_cases c6 : 600 ≤ (s.gates.length : Int)
   ·rw [if_pos c6] at H2
    obtain ⟨rfl, rfl⟩ := Prod.mk.inj (Option.some.inj H2)
    have c6b : decide (600 ≤ (s.gates.length : Int)) = true := decide_eq_true c6
    clear H2 c6
    go_wp2
    go_ret
    refine ⟨rfl, ?_, ?_, ?_⟩
    ·obtain ⟨k1, k2, k3, k4⟩ := KS.out
     exact ⟨_, b1, blk_put BG5.out 3 _ rfl, Kd.R_set (Kd.R_below HR.out HB5.out) BG5.out (by decide) 3 _, M5.out.far (p := ⟨g, 3, none⟩) (M5.out.ne_blk BG5.out) _, k1, k2, k3, k4⟩
    ·exact (below_then HB.out HB.out.size HB5.out).setCell KS.out.2.2.1 _
    ·exact (Kept.of_below HB5.out ok).setCell (.inl KS.out.1) _
   ·rw [if_neg c6] at H2
    have c6b : decide (600 ≤ (s.gates.length : Int)) = false := decide_eq_false c6
    obtain ⟨rfl, rfl⟩ := Prod.mk.inj (Option.some.inj H2)
    have C3 := Aside0.mk c6
    clear H2 c6
    go_wp2
    clear hg1 hg3 hf3 c6b
    have HNE := Aside0.mk (show some gb ≠ (Value.slice A s.gates.length c).ownBlock from fun e => by have := Kd.R_lt HR.out gb e.symm; have := HGB.out; omega)
    have HGG := Aside0.mk (show gb ≠ g from fun e => by have := blk_lt BG.out; have := HGB.out; omega)
    refine start_ (n := 13) (S := fun w' => w'.cell? ⟨g, 1, none⟩ = some (.slice A s.gates.length c) ∧ w'.cell? ⟨gb, 0, none⟩ = some (.int .i64 a) ∧ w'.cell? ⟨gb, 1, none⟩ = some (.int .i64 b)) (ds := [12]) (Pt.bm 13 0) (by kernel_rfl) rfl rfl ⟨(blk_cell BG5.out 1).trans rfl, (blk_cell BX5.out 0).trans rfl, (blk_cell BX5.out 1).trans rfl⟩ (fun hHeld => ?_)
    have hd1 : Below w5.heap.size w5 w5.drew := below_drew (Below.refl _ _)
    have n0 := Aside0.mk (below_step HB5.out hd1)
    have n1 := Aside0.mk (blk_drew BX5.out)
    generalize w5.drew = w6 at n0 n1 hHeld ⊢
    clear HB5 BX5 BG5 M5 hd1
    have HB6 := n0
    have BX6 := n1
    clear n0 n1
    have BG6 := Aside0.mk (blk_below BG.out HB6.out)
    have M6 := Aside0.mk (M1.out.below HB6.out)
    have HR6 := Aside0.mk (Kd.R_below HR.out HB6.out)
    refine Pt.pu 0 (some 59) (Pt.bm 13 1) (by kernel_rfl) ?_
    refine Pt.pu 1 (some 60) (Pt.bm 13 3) (by kernel_rfl) ?_
    refine Pt.pu 2 (some 61) (Pt.bm 13 7) (by kernel_rfl) ?_
    refine Pt.pu 3 (some 62) (Pt.bm 13 15) (by kernel_rfl) ?_
    refine Pt.pu 4 (some 63) (Pt.bm 13 31) (by kernel_rfl) ?_
    refine Pt.tk 5 (some 64) (Pt.bm 13 63) rfl rfl (by kernel_rfl) hHeld (Or.inl ⟨by rfl, by rintro w' ⟨s0, s1, s2⟩; go_simp; with_reducible rfl⟩) ?_
    refine Pt.tk 6 (some 65) (Pt.bm 13 127) rfl rfl (by kernel_rfl) hHeld (Or.inl ⟨by rfl, by rintro w' ⟨s0, s1, s2⟩; go_simp; with_reducible rfl⟩) ?_
    refine one_ (i := 7) (N := some 66) (Pt.bm 13 255) rfl rfl (by kernel_rfl) (by decide) (fun K hK => ?_)
    refine value_ (w1 := ?_) (v := ?_) (by rfl) rfl ?_ ?_
    rotate_left 2
    ·go_simp
     constructor
     ·rfl
     ·rfl
    refine hK.out _ _ ⟨(blk_cell (blk_alloc BG6.out _) 1).trans rfl, (blk_cell (blk_alloc BX6.out _) 0).trans rfl, (blk_cell (blk_alloc BX6.out _) 1).trans rfl⟩ (fun hHeld => ?_)
    clear hK K
    refine norm_ (a' := ?_) ?_ ?_
    rotate_left
    ·show Act.put _ (some 66) _ = _
     simp only [Act.put, List.setIfInBounds_toArray, List.set_cons_zero, List.set_cons_succ, i64_w, i32_w]
     rfl
    refine one_ (i := 8) (N := some 67) (Pt.bm 13 511) rfl rfl (by kernel_rfl) (by decide) (fun K hK => ?_)
    refine Kd.R_append_step k92 (w0 := w0) w0.heap.size (by rfl) (.tmp 64) (.tmp 66) 26 92 (.agg #[.int .i64 0, .int .i64 0]) 16 rfl Try.underlying26 info92 rfl (by decide) (by omega) (.slice A s.gates.length c) s.gates (⟨a, b⟩ : S92) [.int .i64 a, .int .i64 b] ok (fun _ => False) rfl rfl (k92_mkM _ _ _ _) (fun _ hk => hk.elim) (fun k hk => HF.out k (Nat.le_trans HB6.out.size hk)) HR6.out (below_then HB.out HB.out.size HB6.out) (Nat.le_trans HB.out.size HB6.out.size) (by have := C3.out; omega) ?_
    intro v1 w7 ho7 hb7 hg7 _
    obtain ⟨A1, cc1, rfl⟩ := Kd.R_slice ho7
    obtain ⟨y', hy⟩ : ∃ y' : List S92, y' = s.gates ++ [⟨a, b⟩] := ⟨_, rfl⟩
    have hyl : y'.length = s.gates.length + 1 := by rw [hy]; simp
    rw [← hy] at ho7 ⊢
    have BG7 := Aside0.mk (blk_grown BG6.out hg7 (Kd.R_ne HR6.out BG6.out (by decide)))
    have BX7 := Aside0.mk (blk_grown BX6.out hg7 HNE.out)
    have M7 := Aside0.mk (M6.out.grown hg7 (M6.out.ne_row HR6.out))
    have HO7 := Aside0.mk ho7
    have HB7 := Aside0.mk hb7
    have HK7 := Aside0.mk (Kept.of_grown hg7 (Kept.of_below HB6.out ok) (fun k hk => .inl (HR.out.1 k hk)))
    have HY := Aside0.mk hy
    have HYL := Aside0.mk hyl
    clear ho7 hb7 hg7 BG6 BX6 M6 hy hyl HR6 HB6
    refine hK.out _ _ ⟨(blk_cell BG7.out 1).trans rfl, (blk_cell BX7.out 0).trans rfl, (blk_cell BX7.out 1).trans rfl⟩ (fun hHeld => ?_)
    clear hK K
    refine norm_ (a' := ?_) ?_ ?_
    rotate_left
    ·show Act.put _ (some 67) _ = _
     simp only [Act.put, List.setIfInBounds_toArray, List.set_cons_zero, List.set_cons_succ, i64_w, i32_w]
     rfl
    refine Pt.pu 9 (some 68) (Pt.bm 13 1023) (by kernel_rfl) ?_
    refine Pt.pu 10 (some 69) (Pt.bm 13 2047) (by kernel_rfl) ?_
    refine Pt.pu 11 (some 70) (Pt.bm 13 4095) (by kernel_rfl) ?_
    refine last_ (i := 12) (N := none) (Pt.bm 13 8191) rfl rfl (by kernel_rfl) (by decide) (fun K hK => ?_)
    have hs1 : w7.cell? ⟨g, 1, none⟩ = some (.slice A s.gates.length c) := (blk_cell BG7.out 1).trans rfl
    have hfs1 := blk_frozen BG7.out 1
    refine skip_ (w1 := ?_) (by rfl) rfl ?_ ?_
    rotate_left
    ·go_simp
     rfl
    refine hK.out _ _ ?_
    clear hK K hs1 hfs1
    refine done_ (by kernel_rfl) ?_
    have n0 : Aside0 ((w7.setCell ⟨g, 1, none⟩ (.slice A1 y'.length cc1)).heap[g]? = some (.cells #[.int .i64 s.inputs, .slice A1 y'.length cc1, .map (some b1), .bool s.full] 117 (0, 0))) := ⟨blk_put BG7.out 1 _ rfl⟩
    have n1 : Aside0 ((w7.setCell ⟨g, 1, none⟩ (.slice A1 y'.length cc1)).heap[gb]? = some (.cells #[.int .i64 a, .int .i64 b] 92 (0, 0))) := ⟨blk_far BX7.out HGG.out _⟩
    have n2 := Aside0.mk (M7.out.far (p := ⟨g, 1, none⟩) (M7.out.ne_blk BG7.out) (.slice A1 y'.length cc1))
    have n4 := Aside0.mk (Kd.R_set HO7.out BG7.out (by decide) 1 (.slice A1 y'.length cc1))
    have n5 := Aside0.mk (HB7.out.setCell (p := ⟨g, 1, none⟩) KS.out.2.2.1 (.slice A1 y'.length cc1))
    have n6 := Aside0.mk (HK7.out.setCell (p := ⟨g, 1, none⟩) (.inl KS.out.1) (.slice A1 y'.length cc1))
    generalize (w7.setCell ⟨g, 1, none⟩ (.slice A1 y'.length cc1)) = w8 at n0 n1 n2 n4 n5 n6 ⊢
    clear BG7 BX7 M7 HO7 HB7 HK7
    try go_wp2
    have hlw : wrap64 (2 * (wrap64 (s.inputs + (y'.length : Int)))) = wrap64 (2 * (wrap64 (s.inputs + ((s.gates.length : Int) + 1)))) := by rw [HYL.out]; rfl
    refine start_ (n := 14) (S := fun w' => w'.cell? ⟨g, 0, none⟩ = some (.int .i64 s.inputs) ∧ w'.cell? ⟨g, 1, none⟩ = some (.slice A1 y'.length cc1)) (ds := []) (Pt.bm 14 0) (by kernel_rfl) rfl rfl ⟨(blk_cell (blk_drew n0.out) 0).trans rfl, (blk_cell (blk_drew n0.out) 1).trans rfl⟩ (fun hHeld => ?_)
    have BG8 := Aside0.mk (blk_drew n0.out)
    have BX8 := Aside0.mk (blk_drew n1.out)
    have M8 := Aside0.mk n2.out.drew
    have HO8 := Aside0.mk (Kd.R_drew n4.out)
    have HB8 := Aside0.mk (below_drew n5.out)
    have HK8 := Aside0.mk n6.out.drew
    clear n0 n1 n2 n4 n5 n6
    generalize w8.drew = w9 at BG8 BX8 M8 HO8 HB8 HK8 hHeld ⊢
    refine Pt.pu 0 (some 71) (Pt.bm 14 1) (by kernel_rfl) ?_
    refine Pt.pu 1 (some 72) (Pt.bm 14 3) (by kernel_rfl) ?_
    refine Pt.pu 2 (some 73) (Pt.bm 14 7) (by kernel_rfl) ?_
    refine Pt.pu 3 (some 74) (Pt.bm 14 15) (by kernel_rfl) ?_
    refine Pt.tk 4 (some 75) (Pt.bm 14 31) rfl rfl (by kernel_rfl) hHeld (Or.inl ⟨by rfl, by rintro w' ⟨s0, s1⟩; go_simp; with_reducible rfl⟩) ?_
    refine Pt.pu 5 (some 76) (Pt.bm 14 63) (by kernel_rfl) ?_
    refine Pt.pu 6 (some 77) (Pt.bm 14 127) (by kernel_rfl) ?_
    refine Pt.pu 7 (some 78) (Pt.bm 14 255) (by kernel_rfl) ?_
    refine Pt.pu 8 (some 79) (Pt.bm 14 511) (by kernel_rfl) ?_
    refine Pt.tk 9 (some 80) (Pt.bm 14 1023) rfl rfl (by kernel_rfl) hHeld (Or.inl ⟨by rfl, by rintro w' ⟨s0, s1⟩; go_simp; with_reducible rfl⟩) ?_
    refine Pt.pu 10 (some 81) (Pt.bm 14 2047) (by kernel_rfl) ?_
    refine Pt.pu 11 (some 82) (Pt.bm 14 4095) (by kernel_rfl) ?_
    refine Pt.pu 12 (some 83) (Pt.bm 14 8191) (by kernel_rfl) ?_
    refine Pt.pu 13 (some 10) (Pt.bm 14 16383) (by kernel_rfl) ?_
    refine done_ (by kernel_rfl) ?_
    clear hHeld
    try go_wp2
    refine start_ (n := 7) (S := fun w' => w'.cell? ⟨g, 2, none⟩ = some (.map (some b1)) ∧ w'.cell? ⟨gb, 0, none⟩ = some (.int .i64 a) ∧ w'.cell? ⟨gb, 1, none⟩ = some (.int .i64 b)) (ds := [6]) (Pt.bm 7 0) (by kernel_rfl) rfl rfl ⟨(blk_cell (blk_drew BG8.out) 2).trans rfl, (blk_cell (blk_drew BX8.out) 0).trans rfl, (blk_cell (blk_drew BX8.out) 1).trans rfl⟩ (fun hHeld => ?_)
    have n0 := Aside0.mk (blk_drew BG8.out)
    have n1 := Aside0.mk (blk_drew BX8.out)
    have n2 := Aside0.mk M8.out.drew
    have n4 := Aside0.mk (Kd.R_drew HO8.out)
    have n5 := Aside0.mk (below_drew HB8.out)
    have n6 := Aside0.mk HK8.out.drew
    clear BG8 BX8 M8 HO8 HB8 HK8
    generalize w9.drew = w10 at n0 n1 n2 n4 n5 n6 hHeld ⊢
    refine Pt.pu 0 (some 84) (Pt.bm 7 1) (by kernel_rfl) ?_
    refine Pt.pu 1 (some 85) (Pt.bm 7 3) (by kernel_rfl) ?_
    refine Pt.pu 2 (some 86) (Pt.bm 7 7) (by kernel_rfl) ?_
    refine Pt.tk 3 (some 87) (Pt.bm 7 15) rfl rfl (by kernel_rfl) hHeld (Or.inl ⟨by rfl, by rintro w' ⟨s0, s1, s2⟩; go_simp; with_reducible rfl⟩) ?_
    refine Pt.tk 4 (some 88) (Pt.bm 7 31) rfl rfl (by kernel_rfl) hHeld (Or.inl ⟨by rfl, by rintro w' ⟨s0, s1, s2⟩; go_simp; with_reducible rfl⟩) ?_
    refine Pt.pu 5 (some 89) (Pt.bm 7 63) (by kernel_rfl) ?_
    refine last_ (i := 6) (N := none) (Pt.bm 7 127) rfl rfl (by kernel_rfl) (by decide) (fun K hK => ?_)
    refine Mp.store_step (by rfl) rfl (.tmp 87) (.tmp 88) (.tmp 89) rfl rfl n2.out keyA Try.underlying115 ⟨a, b⟩ rfl C2.out (wrap64 (2 * (wrap64 (s.inputs + ((s.gates.length : Int) + 1))))) ?hv ?_
    case hv =>
     show Value.int .i64 _ = _
     first | rw [hlw] | simp only [i64_w, hlw]
    intro w11 hM11 hg11 hz11
    refine hK.out _ _ ?_
    clear hK K hHeld
    refine done_ (by kernel_rfl) ?_
    have BG11 := Aside0.mk (blk_grown n0.out hg11 (by simpa using (n2.out.ne_blk n0.out).symm))
    have M11 := Aside0.mk hM11
    have HO11 := Aside0.mk (Kd.R_map n4.out n2.out hg11)
    have HB11 := Aside0.mk (pw_below_grown n5.out (some b1) (Nat.le_trans (by exact HB.out.size) (by exact n6.out.1)) hg11 (fun k hk => by cases hk; exact KS.out.2.2.2))
    have HK11 := Aside0.mk (Kept.of_grown hg11 n6.out (fun k hk => .inl (by cases hk; exact KS.out.2.1)))
    clear hM11 hg11 hz11 n0 n1 n2 n4 n5 n6
    try go_wp2
    go_ret
    obtain ⟨k1, k2, k3, k4⟩ := KS.out
    rw [← HY.out]
    exact ⟨by first | (rw [hlw]; done) | (rw [hlw]; rfl) | (simp only [i64_w, hlw]; rfl) | rfl, ⟨_, b1, BG11.out, HO11.out, M11.out, k1, k2, k3, k4⟩, HB11.out, HK11.out⟩
 ·rw [if_neg c5] at h
  cases h

/-! ### impl_builder_or: function 110 -/
def impl_builder_or.f (s : BS) (x y : Int) : Option (BS × Int) := (impl_builder_and.f s (Go.bits .xor .i64 x 1) (Go.bits .xor .i64 y 1)).bind fun t => some (t.1, Go.bits .xor .i64 t.2 1)
set_option maxHeartbeats 4000000 in
set_option maxRecDepth 100000 in
theorem impl_builder_or.calls (s s' : BS) (x y r : Int) (ok : Nat → Prop) (g : Nat) (w0 w : World) (hB : Below w0.heap.size w0 w) (hI : IsB w w0.heap.size ok g s) (hf : ∀ k, w.heap.size ≤ k → ok k) (h : impl_builder_or.f s x y = some (s', r)) :
  Calls Try.prog 110 #[.pointer (some ⟨g, 0, none⟩), .int .i64 x, .int .i64 y] w fun e w' => e = .returned (.int .i64 r) ∧ IsB w' w0.heap.size ok g s' ∧ Below w0.heap.size w0 w' ∧ Kept w w' ok := by
 have hu117 := Try.underlying117
 have HI := Aside0.mk hI
 have HB := Aside0.mk hB
 have HF := Aside0.mk hf
 unfold impl_builder_or.f at h
 obtain ⟨⟨s1, r1⟩, h1, h2⟩ := Option.bind_eq_some_iff.mp h
 obtain ⟨rfl, rfl⟩ := Prod.mk.inj (Option.some.inj h2)
 have H1 := Aside0.mk h1
 clear hI hB hf h h1 h2
 go_enter Try.func110, Try.ntmps110
 go_wp2_with (go_at_call 77; (with_reducible refine (impl_builder_and.calls s s1 _ _ r1 ok g w0 _ HB.out HI.out HF.out H1.out).mono ?_); rintro e w1 ⟨rfl, hI1, hB1, hK1⟩; have HI1 := Aside0.mk hI1; have HB1 := Aside0.mk hB1; have HK1 := Aside0.mk hK1; clear hI1 hB1 hK1)
 go_ret
 exact ⟨rfl, HI1.out, HB1.out, HK1.out⟩

/-! ### impl_builder_pick: function 62 -/
def impl_builder_pick.f (s : BS) (by_ yes no : Int) : Option (BS × Int) := if yes = no then some (s, yes) else (impl_builder_and.f s by_ yes).bind fun t => (impl_builder_and.f t.1 (Go.bits .xor .i64 by_ 1) no).bind fun t2 => impl_builder_or.f t2.1 t.2 t2.2
set_option maxHeartbeats 4000000 in
set_option maxRecDepth 100000 in
theorem impl_builder_pick.calls (s s' : BS) (by_ yes no r : Int) (ok : Nat → Prop) (g : Nat) (w0 w : World) (hB : Below w0.heap.size w0 w) (hI : IsB w w0.heap.size ok g s) (hf : ∀ k, w.heap.size ≤ k → ok k) (h : impl_builder_pick.f s by_ yes no = some (s', r)) :
  Calls Try.prog 62 #[.pointer (some ⟨g, 0, none⟩), .int .i64 by_, .int .i64 yes, .int .i64 no] w fun e w' => e = .returned (.int .i64 r) ∧ IsB w' w0.heap.size ok g s' ∧ Below w0.heap.size w0 w' ∧ Kept w w' ok := by
 have hu117 := Try.underlying117
 have HI := Aside0.mk hI
 have HB := Aside0.mk hB
 have HF := Aside0.mk hf
 unfold impl_builder_pick.f at h
 clear hI hB hf
 by_cases c1 : yes = no
 ·rw [if_pos c1] at h
  obtain ⟨rfl, rfl⟩ := Prod.mk.inj (Option.some.inj h)
  have c1b : (yes == no) = true := beq_iff_eq.mpr c1
  clear h c1
  go_enter Try.func62, Try.ntmps62
  go_wp2
  go_ret
  exact ⟨rfl, HI.out, HB.out, Kept.refl _ _⟩
 rw [if_neg c1] at h
 have c1b : (yes == no) = false := beq_eq_false_iff_ne.mpr c1
 obtain ⟨⟨s1, r1⟩, h1, h2⟩ := Option.bind_eq_some_iff.mp h
 obtain ⟨⟨s2, r2⟩, h2, h3⟩ := Option.bind_eq_some_iff.mp h2
 have H1 := Aside0.mk h1
 have H2 := Aside0.mk h2
 have H3 := Aside0.mk h3
 clear h h1 h2 h3 c1
 go_enter Try.func62, Try.ntmps62
 go_wp2_with (first | (go_at_call 77; (with_reducible refine (impl_builder_and.calls s s1 _ _ r1 ok g w0 _ HB.out HI.out HF.out H1.out).mono ?_); rintro e w1 ⟨rfl, hI1, hB1, hK1⟩; have HI1 := Aside0.mk hI1; have HB1 := Aside0.mk hB1; have HK1 := Aside0.mk hK1; have HF1 := Aside0.mk (fun k (hk : w1.heap.size ≤ k) => HF.out k (Nat.le_trans hK1.1 hk)); clear hI1 hB1 hK1 HI HB H1 HF) | (go_at_call 77; (with_reducible refine (impl_builder_and.calls s1 s2 _ _ r2 ok g w0 _ HB1.out HI1.out HF1.out H2.out).mono ?_); rintro e w2 ⟨rfl, hI2, hB2, hK2⟩; have HI2 := Aside0.mk hI2; have HB2 := Aside0.mk hB2; have HK2 := Aside0.mk (HK1.out.then_ hK2 (fun _ hk => .inl hk)); have HF2 := Aside0.mk (fun k (hk : w2.heap.size ≤ k) => HF1.out k (Nat.le_trans hK2.1 hk)); clear hI2 hB2 hK2 HI1 HB1 HK1 H2 HF1) | (go_at_call 110; (with_reducible refine (impl_builder_or.calls s2 s' _ _ r ok g w0 _ HB2.out HI2.out HF2.out H3.out).mono ?_); rintro e w3 ⟨rfl, hI3, hB3, hK3⟩; have HI3 := Aside0.mk hI3; have HB3 := Aside0.mk hB3; have HK3 := Aside0.mk (HK2.out.then_ hK3 (fun _ hk => .inl hk)); clear hI3 hB3 hK3))
 go_ret
 exact ⟨rfl, HI3.out, HB3.out, HK3.out⟩

/-! ### impl_AddPick: function 15 -/
def impl_AddPick.f (k : Nat) (a0_0 : Int) (l0_1 : List S92) (by_ : Int) (yes : Int) (no : Int) : Option (Int × List S92 × Int) := (impl_CircuitValid.f k a0_0 l0_1).bind fun t0 => if t0 = false then some (0, [], -1) else (impl_Circuit_isEdge.f a0_0 l0_1 by_).bind fun t1 => if t1 = false then some (0, [], -1) else (impl_Circuit_isEdge.f a0_0 l0_1 yes).bind fun t2 => if t2 = false then some (0, [], -1) else (impl_Circuit_isEdge.f a0_0 l0_1 no).bind fun t3 => if t3 = false then some (0, [], -1) else (impl_building.f a0_0 l0_1).bind fun s => (impl_builder_pick.f s by_ yes no).bind fun p => impl_builder_done.f p.1 p.2
theorem impl_AddPick.mono : ∀ a0_0 l0_1 by_ yes no k, LeO (impl_AddPick.f k a0_0 l0_1 by_ yes no) (impl_AddPick.f (k + 1) a0_0 l0_1 by_ yes no) := fun a0_0 l0_1 by_ yes no k => LeO.bind (impl_CircuitValid.mono _ _ k) (fun _ => LeO.ite (LeO.refl _) (LeO.bind (LeO.refl _) (fun _ => LeO.ite (LeO.refl _) (LeO.bind (LeO.refl _) (fun _ => LeO.ite (LeO.refl _) (LeO.bind (LeO.refl _) (fun _ => LeO.ite (LeO.refl _) (LeO.bind (LeO.refl _) (fun _ => LeO.bind (LeO.refl _) (fun _ => LeO.refl _))))))))))
set_option maxHeartbeats 8000000 in
set_option maxRecDepth 100000 in
theorem impl_AddPick.calls (k : Nat) (a0_0 : Int) (A0_1 : Option Addr) (c0_1 : Nat) (l0_1 : List S92) (by_ : Int) (yes : Int) (no : Int) (r1 : Int) (r2 : List S92) (r3 : Int) (w : World) (hr : Kd.C k92 w A0_1 l0_1.length l0_1) (hc : l0_1.length ≤ c0_1) (h : impl_AddPick.f k a0_0 l0_1 by_ yes no = some (r1, r2, r3)) :
  Calls Try.prog 15 #[.agg #[.int .i64 a0_0, .slice A0_1 l0_1.length c0_1], .int .i64 by_, .int .i64 yes, .int .i64 no] w fun e w' => ∃ v1_ : Value, e = .returned (.tuple #[.agg #[.int .i64 r1, v1_], .int .i64 r3]) ∧ Kd.R k92 92 w' w.heap.size (fun _ => True) v1_ r2 ∧ Below w.heap.size w w' := by
 have hu28 := Try.underlying28
 have HR := Aside0.mk hr
 have HC := Aside0.mk hc
 unfold impl_AddPick.f at h
 clear hr hc
 obtain ⟨t0, h0, h_⟩ := Option.bind_eq_some_iff.mp h
 clear h
 have h := h_
 have T0 := Aside0.mk h0
 clear h0 h_
 cases t0 with
 | false =>
  rw [if_pos rfl] at h
  simp only [Option.some.injEq, Prod.mk.injEq] at h
  obtain ⟨rfl, rfl, rfl⟩ := h
  go_enter Try.func15, Try.ntmps15
  go_wp2_with (first | ((with_reducible refine gate_dst (N := 4) rfl ?_); refine box_event ?hg (N := 4) ?hd (cs := #[.int .i64 a0_0, .slice A0_1 l0_1.length c0_1]) (t := 28) ?hr ?_; (case hd => rfl); (case hg => rfl); (case hr => first | (go_simp; done) | (go_simp; rfl)); intro g0 hg0 w1 hbox hb; have BD1 := Aside0.mk hbox; have HB1 := Aside0.mk hb; clear hg0 hbox hb) | ((with_reducible refine gate_dst (N := 8) rfl ?_); refine box_event ?hg (N := 8) ?hd (cs := #[.int .i64 0, .slice none 0 0]) (t := 28) ?hr ?_; (case hd => rfl); (case hg => rfl); (case hr => first | (go_simp; done) | (go_simp; rfl)); intro gr hgr w2 hbox hb; have GR := Aside0.mk (show w.heap.size ≤ gr by rw [hgr]; exact HB1.out.size); have BR2 := Aside0.mk hbox; have BD2 := Aside0.mk (blk_below BD1.out hb); have HB2 := Aside0.mk (below_step HB1.out hb); have d20 : w2.cell? ⟨g0, 0, none⟩ = some (.int .i64 a0_0) := (blk_cell BD2.out 0).trans rfl; have d21 : w2.cell? ⟨g0, 1, none⟩ = some (.slice A0_1 l0_1.length c0_1) := (blk_cell BD2.out 1).trans rfl; clear hgr hbox hb) | (go_at_call 23; (with_reducible refine (impl_CircuitValid.calls k a0_0 A0_1 c0_1 l0_1 false _ (Kd.C_below HR.out HB2.out) HC.out T0.out).mono ?_); rintro e w3 ⟨rfl, hb⟩; have HB3 := Aside0.mk (below_step HB2.out hb); have BD3 := Aside0.mk (blk_below BD2.out hb); have BR3 := Aside0.mk (blk_below BR2.out hb); have d30 : w3.cell? ⟨g0, 0, none⟩ = some (.int .i64 a0_0) := (blk_cell BD3.out 0).trans rfl; have d31 : w3.cell? ⟨g0, 1, none⟩ = some (.slice A0_1 l0_1.length c0_1) := (blk_cell BD3.out 1).trans rfl; have r30 : w3.cell? ⟨gr, 0, none⟩ = some (.int .i64 0) := (blk_cell BR3.out 0).trans rfl; have r31 : w3.cell? ⟨gr, 1, none⟩ = some (.slice none 0 0) := (blk_cell BR3.out 1).trans rfl; have q30 := blk_frozen BR3.out 0; have q31 := blk_frozen BR3.out 1; clear hb))
  refine bodyPost_ret (results_ct rfl _ _ gr 28 #[.int .i64 0, .slice none 0 0] (0, 0) _ rfl (blk_put (blk_put BR3.out 0 _ rfl) 1 _ rfl) Try.underlying28 rfl (by kernel_rfl)) rfl ?_
  exact ⟨_, rfl, Kd.R_nil _ _ _ _ _, below_set (below_set HB3.out GR.out) GR.out⟩
 | true =>
  rw [if_neg (by decide)] at h
  obtain ⟨t1, h1, h_⟩ := Option.bind_eq_some_iff.mp h
  clear h
  have h := h_
  have T1 := Aside0.mk h1
  clear h1 h_
  cases t1 with
  | false =>
   rw [if_pos rfl] at h
   simp only [Option.some.injEq, Prod.mk.injEq] at h
   obtain ⟨rfl, rfl, rfl⟩ := h
   go_enter Try.func15, Try.ntmps15
   go_wp2_with (first | ((with_reducible refine gate_dst (N := 4) rfl ?_); refine box_event ?hg (N := 4) ?hd (cs := #[.int .i64 a0_0, .slice A0_1 l0_1.length c0_1]) (t := 28) ?hr ?_; (case hd => rfl); (case hg => rfl); (case hr => first | (go_simp; done) | (go_simp; rfl)); intro g0 hg0 w1 hbox hb; have BD1 := Aside0.mk hbox; have HB1 := Aside0.mk hb; clear hg0 hbox hb) | ((with_reducible refine gate_dst (N := 8) rfl ?_); refine box_event ?hg (N := 8) ?hd (cs := #[.int .i64 0, .slice none 0 0]) (t := 28) ?hr ?_; (case hd => rfl); (case hg => rfl); (case hr => first | (go_simp; done) | (go_simp; rfl)); intro gr hgr w2 hbox hb; have GR := Aside0.mk (show w.heap.size ≤ gr by rw [hgr]; exact HB1.out.size); have BR2 := Aside0.mk hbox; have BD2 := Aside0.mk (blk_below BD1.out hb); have HB2 := Aside0.mk (below_step HB1.out hb); have d20 : w2.cell? ⟨g0, 0, none⟩ = some (.int .i64 a0_0) := (blk_cell BD2.out 0).trans rfl; have d21 : w2.cell? ⟨g0, 1, none⟩ = some (.slice A0_1 l0_1.length c0_1) := (blk_cell BD2.out 1).trans rfl; clear hgr hbox hb) | (go_at_call 23; (with_reducible refine (impl_CircuitValid.calls k a0_0 A0_1 c0_1 l0_1 true _ (Kd.C_below HR.out HB2.out) HC.out T0.out).mono ?_); rintro e w3 ⟨rfl, hb⟩; have HB3 := Aside0.mk (below_step HB2.out hb); have BD3 := Aside0.mk (blk_below BD2.out hb); have BR3 := Aside0.mk (blk_below BR2.out hb); have d30 : w3.cell? ⟨g0, 0, none⟩ = some (.int .i64 a0_0) := (blk_cell BD3.out 0).trans rfl; have d31 : w3.cell? ⟨g0, 1, none⟩ = some (.slice A0_1 l0_1.length c0_1) := (blk_cell BD3.out 1).trans rfl; have r30 : w3.cell? ⟨gr, 0, none⟩ = some (.int .i64 0) := (blk_cell BR3.out 0).trans rfl; have r31 : w3.cell? ⟨gr, 1, none⟩ = some (.slice none 0 0) := (blk_cell BR3.out 1).trans rfl; have q30 := blk_frozen BR3.out 0; have q31 := blk_frozen BR3.out 1; clear hb) | (go_at_call 59; (with_reducible refine (impl_Circuit_isEdge.calls a0_0 A0_1 c0_1 l0_1 by_ false _ (Kd.C_below HR.out HB3.out) HC.out T1.out).mono ?_); rintro e w4 ⟨rfl, hb⟩; have HB4 := Aside0.mk (below_step HB3.out hb); have BD4 := Aside0.mk (blk_below BD3.out hb); have BR4 := Aside0.mk (blk_below BR3.out hb); have d40 : w4.cell? ⟨g0, 0, none⟩ = some (.int .i64 a0_0) := (blk_cell BD4.out 0).trans rfl; have d41 : w4.cell? ⟨g0, 1, none⟩ = some (.slice A0_1 l0_1.length c0_1) := (blk_cell BD4.out 1).trans rfl; have r40 : w4.cell? ⟨gr, 0, none⟩ = some (.int .i64 0) := (blk_cell BR4.out 0).trans rfl; have r41 : w4.cell? ⟨gr, 1, none⟩ = some (.slice none 0 0) := (blk_cell BR4.out 1).trans rfl; have q40 := blk_frozen BR4.out 0; have q41 := blk_frozen BR4.out 1; clear hb))
   refine bodyPost_ret (results_ct rfl _ _ gr 28 #[.int .i64 0, .slice none 0 0] (0, 0) _ rfl (blk_put (blk_put BR4.out 0 _ rfl) 1 _ rfl) Try.underlying28 rfl (by kernel_rfl)) rfl ?_
   exact ⟨_, rfl, Kd.R_nil _ _ _ _ _, below_set (below_set HB4.out GR.out) GR.out⟩
  | true =>
   rw [if_neg (by decide)] at h
   obtain ⟨t2, h2, h_⟩ := Option.bind_eq_some_iff.mp h
   clear h
   have h := h_
   have T2 := Aside0.mk h2
   clear h2 h_
   cases t2 with
   | false =>
    rw [if_pos rfl] at h
    simp only [Option.some.injEq, Prod.mk.injEq] at h
    obtain ⟨rfl, rfl, rfl⟩ := h
    go_enter Try.func15, Try.ntmps15
    go_wp2_with (first | ((with_reducible refine gate_dst (N := 4) rfl ?_); refine box_event ?hg (N := 4) ?hd (cs := #[.int .i64 a0_0, .slice A0_1 l0_1.length c0_1]) (t := 28) ?hr ?_; (case hd => rfl); (case hg => rfl); (case hr => first | (go_simp; done) | (go_simp; rfl)); intro g0 hg0 w1 hbox hb; have BD1 := Aside0.mk hbox; have HB1 := Aside0.mk hb; clear hg0 hbox hb) | ((with_reducible refine gate_dst (N := 8) rfl ?_); refine box_event ?hg (N := 8) ?hd (cs := #[.int .i64 0, .slice none 0 0]) (t := 28) ?hr ?_; (case hd => rfl); (case hg => rfl); (case hr => first | (go_simp; done) | (go_simp; rfl)); intro gr hgr w2 hbox hb; have GR := Aside0.mk (show w.heap.size ≤ gr by rw [hgr]; exact HB1.out.size); have BR2 := Aside0.mk hbox; have BD2 := Aside0.mk (blk_below BD1.out hb); have HB2 := Aside0.mk (below_step HB1.out hb); have d20 : w2.cell? ⟨g0, 0, none⟩ = some (.int .i64 a0_0) := (blk_cell BD2.out 0).trans rfl; have d21 : w2.cell? ⟨g0, 1, none⟩ = some (.slice A0_1 l0_1.length c0_1) := (blk_cell BD2.out 1).trans rfl; clear hgr hbox hb) | (go_at_call 23; (with_reducible refine (impl_CircuitValid.calls k a0_0 A0_1 c0_1 l0_1 true _ (Kd.C_below HR.out HB2.out) HC.out T0.out).mono ?_); rintro e w3 ⟨rfl, hb⟩; have HB3 := Aside0.mk (below_step HB2.out hb); have BD3 := Aside0.mk (blk_below BD2.out hb); have BR3 := Aside0.mk (blk_below BR2.out hb); have d30 : w3.cell? ⟨g0, 0, none⟩ = some (.int .i64 a0_0) := (blk_cell BD3.out 0).trans rfl; have d31 : w3.cell? ⟨g0, 1, none⟩ = some (.slice A0_1 l0_1.length c0_1) := (blk_cell BD3.out 1).trans rfl; have r30 : w3.cell? ⟨gr, 0, none⟩ = some (.int .i64 0) := (blk_cell BR3.out 0).trans rfl; have r31 : w3.cell? ⟨gr, 1, none⟩ = some (.slice none 0 0) := (blk_cell BR3.out 1).trans rfl; have q30 := blk_frozen BR3.out 0; have q31 := blk_frozen BR3.out 1; clear hb) | (go_at_call 59; (with_reducible refine (impl_Circuit_isEdge.calls a0_0 A0_1 c0_1 l0_1 by_ true _ (Kd.C_below HR.out HB3.out) HC.out T1.out).mono ?_); rintro e w4 ⟨rfl, hb⟩; have HB4 := Aside0.mk (below_step HB3.out hb); have BD4 := Aside0.mk (blk_below BD3.out hb); have BR4 := Aside0.mk (blk_below BR3.out hb); have d40 : w4.cell? ⟨g0, 0, none⟩ = some (.int .i64 a0_0) := (blk_cell BD4.out 0).trans rfl; have d41 : w4.cell? ⟨g0, 1, none⟩ = some (.slice A0_1 l0_1.length c0_1) := (blk_cell BD4.out 1).trans rfl; have r40 : w4.cell? ⟨gr, 0, none⟩ = some (.int .i64 0) := (blk_cell BR4.out 0).trans rfl; have r41 : w4.cell? ⟨gr, 1, none⟩ = some (.slice none 0 0) := (blk_cell BR4.out 1).trans rfl; have q40 := blk_frozen BR4.out 0; have q41 := blk_frozen BR4.out 1; clear hb) | (go_at_call 59; (with_reducible refine (impl_Circuit_isEdge.calls a0_0 A0_1 c0_1 l0_1 yes false _ (Kd.C_below HR.out HB4.out) HC.out T2.out).mono ?_); rintro e w5 ⟨rfl, hb⟩; have HB5 := Aside0.mk (below_step HB4.out hb); have BD5 := Aside0.mk (blk_below BD4.out hb); have BR5 := Aside0.mk (blk_below BR4.out hb); have d50 : w5.cell? ⟨g0, 0, none⟩ = some (.int .i64 a0_0) := (blk_cell BD5.out 0).trans rfl; have d51 : w5.cell? ⟨g0, 1, none⟩ = some (.slice A0_1 l0_1.length c0_1) := (blk_cell BD5.out 1).trans rfl; have r50 : w5.cell? ⟨gr, 0, none⟩ = some (.int .i64 0) := (blk_cell BR5.out 0).trans rfl; have r51 : w5.cell? ⟨gr, 1, none⟩ = some (.slice none 0 0) := (blk_cell BR5.out 1).trans rfl; have q50 := blk_frozen BR5.out 0; have q51 := blk_frozen BR5.out 1; clear hb))
    refine bodyPost_ret (results_ct rfl _ _ gr 28 #[.int .i64 0, .slice none 0 0] (0, 0) _ rfl (blk_put (blk_put BR5.out 0 _ rfl) 1 _ rfl) Try.underlying28 rfl (by kernel_rfl)) rfl ?_
    exact ⟨_, rfl, Kd.R_nil _ _ _ _ _, below_set (below_set HB5.out GR.out) GR.out⟩
   | true =>
    rw [if_neg (by decide)] at h
    obtain ⟨t3, h3, h_⟩ := Option.bind_eq_some_iff.mp h
    clear h
    have h := h_
    have T3 := Aside0.mk h3
    clear h3 h_
    cases t3 with
    | false =>
     rw [if_pos rfl] at h
     simp only [Option.some.injEq, Prod.mk.injEq] at h
     obtain ⟨rfl, rfl, rfl⟩ := h
     go_enter Try.func15, Try.ntmps15
     go_wp2_with (first | ((with_reducible refine gate_dst (N := 4) rfl ?_); refine box_event ?hg (N := 4) ?hd (cs := #[.int .i64 a0_0, .slice A0_1 l0_1.length c0_1]) (t := 28) ?hr ?_; (case hd => rfl); (case hg => rfl); (case hr => first | (go_simp; done) | (go_simp; rfl)); intro g0 hg0 w1 hbox hb; have BD1 := Aside0.mk hbox; have HB1 := Aside0.mk hb; clear hg0 hbox hb) | ((with_reducible refine gate_dst (N := 8) rfl ?_); refine box_event ?hg (N := 8) ?hd (cs := #[.int .i64 0, .slice none 0 0]) (t := 28) ?hr ?_; (case hd => rfl); (case hg => rfl); (case hr => first | (go_simp; done) | (go_simp; rfl)); intro gr hgr w2 hbox hb; have GR := Aside0.mk (show w.heap.size ≤ gr by rw [hgr]; exact HB1.out.size); have BR2 := Aside0.mk hbox; have BD2 := Aside0.mk (blk_below BD1.out hb); have HB2 := Aside0.mk (below_step HB1.out hb); have d20 : w2.cell? ⟨g0, 0, none⟩ = some (.int .i64 a0_0) := (blk_cell BD2.out 0).trans rfl; have d21 : w2.cell? ⟨g0, 1, none⟩ = some (.slice A0_1 l0_1.length c0_1) := (blk_cell BD2.out 1).trans rfl; clear hgr hbox hb) | (go_at_call 23; (with_reducible refine (impl_CircuitValid.calls k a0_0 A0_1 c0_1 l0_1 true _ (Kd.C_below HR.out HB2.out) HC.out T0.out).mono ?_); rintro e w3 ⟨rfl, hb⟩; have HB3 := Aside0.mk (below_step HB2.out hb); have BD3 := Aside0.mk (blk_below BD2.out hb); have BR3 := Aside0.mk (blk_below BR2.out hb); have d30 : w3.cell? ⟨g0, 0, none⟩ = some (.int .i64 a0_0) := (blk_cell BD3.out 0).trans rfl; have d31 : w3.cell? ⟨g0, 1, none⟩ = some (.slice A0_1 l0_1.length c0_1) := (blk_cell BD3.out 1).trans rfl; have r30 : w3.cell? ⟨gr, 0, none⟩ = some (.int .i64 0) := (blk_cell BR3.out 0).trans rfl; have r31 : w3.cell? ⟨gr, 1, none⟩ = some (.slice none 0 0) := (blk_cell BR3.out 1).trans rfl; have q30 := blk_frozen BR3.out 0; have q31 := blk_frozen BR3.out 1; clear hb) | (go_at_call 59; (with_reducible refine (impl_Circuit_isEdge.calls a0_0 A0_1 c0_1 l0_1 by_ true _ (Kd.C_below HR.out HB3.out) HC.out T1.out).mono ?_); rintro e w4 ⟨rfl, hb⟩; have HB4 := Aside0.mk (below_step HB3.out hb); have BD4 := Aside0.mk (blk_below BD3.out hb); have BR4 := Aside0.mk (blk_below BR3.out hb); have d40 : w4.cell? ⟨g0, 0, none⟩ = some (.int .i64 a0_0) := (blk_cell BD4.out 0).trans rfl; have d41 : w4.cell? ⟨g0, 1, none⟩ = some (.slice A0_1 l0_1.length c0_1) := (blk_cell BD4.out 1).trans rfl; have r40 : w4.cell? ⟨gr, 0, none⟩ = some (.int .i64 0) := (blk_cell BR4.out 0).trans rfl; have r41 : w4.cell? ⟨gr, 1, none⟩ = some (.slice none 0 0) := (blk_cell BR4.out 1).trans rfl; have q40 := blk_frozen BR4.out 0; have q41 := blk_frozen BR4.out 1; clear hb) | (go_at_call 59; (with_reducible refine (impl_Circuit_isEdge.calls a0_0 A0_1 c0_1 l0_1 yes true _ (Kd.C_below HR.out HB4.out) HC.out T2.out).mono ?_); rintro e w5 ⟨rfl, hb⟩; have HB5 := Aside0.mk (below_step HB4.out hb); have BD5 := Aside0.mk (blk_below BD4.out hb); have BR5 := Aside0.mk (blk_below BR4.out hb); have d50 : w5.cell? ⟨g0, 0, none⟩ = some (.int .i64 a0_0) := (blk_cell BD5.out 0).trans rfl; have d51 : w5.cell? ⟨g0, 1, none⟩ = some (.slice A0_1 l0_1.length c0_1) := (blk_cell BD5.out 1).trans rfl; have r50 : w5.cell? ⟨gr, 0, none⟩ = some (.int .i64 0) := (blk_cell BR5.out 0).trans rfl; have r51 : w5.cell? ⟨gr, 1, none⟩ = some (.slice none 0 0) := (blk_cell BR5.out 1).trans rfl; have q50 := blk_frozen BR5.out 0; have q51 := blk_frozen BR5.out 1; clear hb) | (go_at_call 59; (with_reducible refine (impl_Circuit_isEdge.calls a0_0 A0_1 c0_1 l0_1 no false _ (Kd.C_below HR.out HB5.out) HC.out T3.out).mono ?_); rintro e w6 ⟨rfl, hb⟩; have HB6 := Aside0.mk (below_step HB5.out hb); have BD6 := Aside0.mk (blk_below BD5.out hb); have BR6 := Aside0.mk (blk_below BR5.out hb); have d60 : w6.cell? ⟨g0, 0, none⟩ = some (.int .i64 a0_0) := (blk_cell BD6.out 0).trans rfl; have d61 : w6.cell? ⟨g0, 1, none⟩ = some (.slice A0_1 l0_1.length c0_1) := (blk_cell BD6.out 1).trans rfl; have r60 : w6.cell? ⟨gr, 0, none⟩ = some (.int .i64 0) := (blk_cell BR6.out 0).trans rfl; have r61 : w6.cell? ⟨gr, 1, none⟩ = some (.slice none 0 0) := (blk_cell BR6.out 1).trans rfl; have q60 := blk_frozen BR6.out 0; have q61 := blk_frozen BR6.out 1; clear hb))
     refine bodyPost_ret (results_ct rfl _ _ gr 28 #[.int .i64 0, .slice none 0 0] (0, 0) _ rfl (blk_put (blk_put BR6.out 0 _ rfl) 1 _ rfl) Try.underlying28 rfl (by kernel_rfl)) rfl ?_
     exact ⟨_, rfl, Kd.R_nil _ _ _ _ _, below_set (below_set HB6.out GR.out) GR.out⟩
    | true =>
     rw [if_neg (by decide)] at h
     obtain ⟨s, hs, h_⟩ := Option.bind_eq_some_iff.mp h
     obtain ⟨⟨s2, r⟩, hp, hd⟩ := Option.bind_eq_some_iff.mp h_
     have TS := Aside0.mk hs
     have TP := Aside0.mk hp
     have TD := Aside0.mk hd
     clear h h_ hs hp hd
     go_enter Try.func15, Try.ntmps15
     go_wp2_with (first | ((with_reducible refine gate_dst (N := 4) rfl ?_); refine box_event ?hg (N := 4) ?hd (cs := #[.int .i64 a0_0, .slice A0_1 l0_1.length c0_1]) (t := 28) ?hr ?_; (case hd => rfl); (case hg => rfl); (case hr => first | (go_simp; done) | (go_simp; rfl)); intro g0 hg0 w1 hbox hb; have BD1 := Aside0.mk hbox; have HB1 := Aside0.mk hb; clear hg0 hbox hb) | ((with_reducible refine gate_dst (N := 8) rfl ?_); refine box_event ?hg (N := 8) ?hd (cs := #[.int .i64 0, .slice none 0 0]) (t := 28) ?hr ?_; (case hd => rfl); (case hg => rfl); (case hr => first | (go_simp; done) | (go_simp; rfl)); intro gr hgr w2 hbox hb; have GR := Aside0.mk (show w.heap.size ≤ gr by rw [hgr]; exact HB1.out.size); have BR2 := Aside0.mk hbox; have BD2 := Aside0.mk (blk_below BD1.out hb); have HB2 := Aside0.mk (below_step HB1.out hb); have d20 : w2.cell? ⟨g0, 0, none⟩ = some (.int .i64 a0_0) := (blk_cell BD2.out 0).trans rfl; have d21 : w2.cell? ⟨g0, 1, none⟩ = some (.slice A0_1 l0_1.length c0_1) := (blk_cell BD2.out 1).trans rfl; clear hgr hbox hb) | (go_at_call 23; (with_reducible refine (impl_CircuitValid.calls k a0_0 A0_1 c0_1 l0_1 true _ (Kd.C_below HR.out HB2.out) HC.out T0.out).mono ?_); rintro e w3 ⟨rfl, hb⟩; have HB3 := Aside0.mk (below_step HB2.out hb); have BD3 := Aside0.mk (blk_below BD2.out hb); have BR3 := Aside0.mk (blk_below BR2.out hb); have d30 : w3.cell? ⟨g0, 0, none⟩ = some (.int .i64 a0_0) := (blk_cell BD3.out 0).trans rfl; have d31 : w3.cell? ⟨g0, 1, none⟩ = some (.slice A0_1 l0_1.length c0_1) := (blk_cell BD3.out 1).trans rfl; have r30 : w3.cell? ⟨gr, 0, none⟩ = some (.int .i64 0) := (blk_cell BR3.out 0).trans rfl; have r31 : w3.cell? ⟨gr, 1, none⟩ = some (.slice none 0 0) := (blk_cell BR3.out 1).trans rfl; have q30 := blk_frozen BR3.out 0; have q31 := blk_frozen BR3.out 1; clear hb) | (go_at_call 59; (with_reducible refine (impl_Circuit_isEdge.calls a0_0 A0_1 c0_1 l0_1 by_ true _ (Kd.C_below HR.out HB3.out) HC.out T1.out).mono ?_); rintro e w4 ⟨rfl, hb⟩; have HB4 := Aside0.mk (below_step HB3.out hb); have BD4 := Aside0.mk (blk_below BD3.out hb); have BR4 := Aside0.mk (blk_below BR3.out hb); have d40 : w4.cell? ⟨g0, 0, none⟩ = some (.int .i64 a0_0) := (blk_cell BD4.out 0).trans rfl; have d41 : w4.cell? ⟨g0, 1, none⟩ = some (.slice A0_1 l0_1.length c0_1) := (blk_cell BD4.out 1).trans rfl; have r40 : w4.cell? ⟨gr, 0, none⟩ = some (.int .i64 0) := (blk_cell BR4.out 0).trans rfl; have r41 : w4.cell? ⟨gr, 1, none⟩ = some (.slice none 0 0) := (blk_cell BR4.out 1).trans rfl; have q40 := blk_frozen BR4.out 0; have q41 := blk_frozen BR4.out 1; clear hb) | (go_at_call 59; (with_reducible refine (impl_Circuit_isEdge.calls a0_0 A0_1 c0_1 l0_1 yes true _ (Kd.C_below HR.out HB4.out) HC.out T2.out).mono ?_); rintro e w5 ⟨rfl, hb⟩; have HB5 := Aside0.mk (below_step HB4.out hb); have BD5 := Aside0.mk (blk_below BD4.out hb); have BR5 := Aside0.mk (blk_below BR4.out hb); have d50 : w5.cell? ⟨g0, 0, none⟩ = some (.int .i64 a0_0) := (blk_cell BD5.out 0).trans rfl; have d51 : w5.cell? ⟨g0, 1, none⟩ = some (.slice A0_1 l0_1.length c0_1) := (blk_cell BD5.out 1).trans rfl; have r50 : w5.cell? ⟨gr, 0, none⟩ = some (.int .i64 0) := (blk_cell BR5.out 0).trans rfl; have r51 : w5.cell? ⟨gr, 1, none⟩ = some (.slice none 0 0) := (blk_cell BR5.out 1).trans rfl; have q50 := blk_frozen BR5.out 0; have q51 := blk_frozen BR5.out 1; clear hb) | (go_at_call 59; (with_reducible refine (impl_Circuit_isEdge.calls a0_0 A0_1 c0_1 l0_1 no true _ (Kd.C_below HR.out HB5.out) HC.out T3.out).mono ?_); rintro e w6 ⟨rfl, hb⟩; have HB6 := Aside0.mk (below_step HB5.out hb); have BD6 := Aside0.mk (blk_below BD5.out hb); have BR6 := Aside0.mk (blk_below BR5.out hb); have d60 : w6.cell? ⟨g0, 0, none⟩ = some (.int .i64 a0_0) := (blk_cell BD6.out 0).trans rfl; have d61 : w6.cell? ⟨g0, 1, none⟩ = some (.slice A0_1 l0_1.length c0_1) := (blk_cell BD6.out 1).trans rfl; have r60 : w6.cell? ⟨gr, 0, none⟩ = some (.int .i64 0) := (blk_cell BR6.out 0).trans rfl; have r61 : w6.cell? ⟨gr, 1, none⟩ = some (.slice none 0 0) := (blk_cell BR6.out 1).trans rfl; have q60 := blk_frozen BR6.out 0; have q61 := blk_frozen BR6.out 1; clear hb) | (go_at_call 60; (with_reducible refine (impl_building.calls a0_0 A0_1 c0_1 l0_1 s _ (Kd.C_below HR.out HB6.out) HC.out TS.out).mono ?_); rintro e wF ⟨g, rfl, hi, hb⟩; have IF := Aside0.mk hi; have HBF := Aside0.mk hb; clear hi hb) | (go_at_call 62; have hfx_ := (fun k_ (hk : wF.heap.size ≤ k_) => Nat.le_trans HBF.out.size hk); (with_reducible refine (impl_builder_pick.calls s s2 by_ yes no r _ g w6 _ HBF.out IF.out hfx_ TP.out).mono ?_); rintro e wG ⟨rfl, hi_, hb_, hk_⟩; have IG := Aside0.mk hi_; have HBG := Aside0.mk hb_; clear hi_ hb_ hk_ hfx_) | (go_at_call 61; (with_reducible refine (impl_builder_done.calls s2 r r1 r2 r3 _ _ g _ IG.out TD.out).mono ?_); rintro e wD ⟨v1, rfl, hR, hb⟩; obtain ⟨A5, c5, rfl⟩ := Kd.R_slice hR; have HBD := Aside0.mk (below_then HBG.out HBG.out.size hb); have BRD := Aside0.mk (blk_below BR6.out HBD.out); have RD := Aside0.mk (Kd.R_lower hR (Nat.le_trans HB6.out.size HBG.out.size)); have r90 : wD.cell? ⟨gr, 0, none⟩ = some (.int .i64 0) := (blk_cell BRD.out 0).trans rfl; have r91 : wD.cell? ⟨gr, 1, none⟩ = some (.slice none 0 0) := (blk_cell BRD.out 1).trans rfl; have q90 := blk_frozen BRD.out 0; have q91 := blk_frozen BRD.out 1; clear hR hb))
     refine bodyPost_ret (results_ct rfl _ _ gr 28 #[.int .i64 r1, .slice A5 r2.length c5] (0, 0) _ rfl (blk_put (blk_put BRD.out 0 _ rfl) 1 _ rfl) Try.underlying28 rfl (by kernel_rfl)) rfl ?_
     exact ⟨_, rfl, Kd.R_mono (Kd.R_far (p := ⟨gr, 1, none⟩) (Kd.R_far (p := ⟨gr, 0, none⟩) (Kd.R_types RD.out BRD.out (by decide)) (fun _ hk => hk.2) _) (fun _ hk => hk.2) _) (fun _ _ => trivial), below_set (below_set (below_step HB6.out HBD.out) GR.out) GR.out⟩

/-- A state of type 121 at block g of W; what its slices lead to came in by w0. -/
def IsS121 (w0 W : World) (g : Nat) (f0 : List Int) (f1 : Int) : Prop := ∃ A0 c0, W.heap[g]? = some (.cells #[.slice A0 f0.length c0, .int .i64 f1] 121 (0, 0)) ∧ w0.heap.size ≤ g ∧ Kd.C (Kd.int .u8) w0 A0 f0.length f0
theorem IsS121.grown {w0 W : World} {g : Nat} {f0 : List Int} {f1 : Int} {W1 : World} {row : Option Nat} (h : IsS121 w0 W g f0 f1) (hw : W.grownBy W1 row) (hne : some g ≠ row) : IsS121 w0 W1 g f0 f1 := by
 obtain ⟨A0, c0, hb, hg, hr0⟩ := h
 exact ⟨A0, c0, blk_grown hb hw hne, hg, hr0⟩
theorem IsS121.own_neN {w0 W : World} {g : Nat} {f0 : List Int} {f1 : Int} {α : Type} {d : Kd α} {e : Nat} {base : Nat} {ok : Nat → Prop} {v : Value} {xs : List α} (h : IsS121 w0 W g f0 f1) (ho : Kd.N d e W base ok v xs) (ht : e ≠ 121) : some g ≠ v.ownBlock := by
 obtain ⟨A0, c0, hb, hg, hr0⟩ := h
 exact Kd.N_ne ho hb ht
theorem IsS121.fresh {w0 W : World} {g : Nat} {f0 : List Int} {f1 : Int} (h : IsS121 w0 W g f0 f1) : ∀ k, W.heap.size ≤ k → k ≠ g := by
 obtain ⟨A0, c0, hb, hg, hr0⟩ := h
 exact Kd.freshB hb
theorem IsS121.kept {w0 W : World} {g : Nat} {f0 : List Int} {f1 : Int} {W1 : World} {S : Nat → Prop} (h : IsS121 w0 W g f0 f1) (hk : Kept W W1 S) (hne : ¬ S g) : IsS121 w0 W1 g f0 f1 := by
 obtain ⟨A0, c0, hb, hg, hr0⟩ := h
 exact ⟨A0, c0, blk_kept hb hk hne, hg, hr0⟩
theorem IsS121.below {w0 W : World} {g : Nat} {f0 : List Int} {f1 : Int} {W1 : World} (h : IsS121 w0 W g f0 f1) (hw : Below W.heap.size W W1) : IsS121 w0 W1 g f0 f1 := h.grown (grown_of_below hw none) (by simp)
theorem IsS121.alloc {w0 W : World} {g : Nat} {f0 : List Int} {f1 : Int} (h : IsS121 w0 W g f0 f1) (o : Obj) : IsS121 w0 (W.alloc o) g f0 f1 := h.below (below_alloc (Below.refl _ _) o)
theorem IsS121.drewN {w0 W : World} {g : Nat} {f0 : List Int} {f1 : Int} (h : IsS121 w0 W g f0 f1) (m : Nat) : IsS121 w0 (W.drewN m) g f0 f1 := h
theorem IsS121.drew {w0 W : World} {g : Nat} {f0 : List Int} {f1 : Int} (h : IsS121 w0 W g f0 f1) : IsS121 w0 W.drew g f0 f1 := h
theorem IsS121.at_ {w0 W : World} {g : Nat} {f0 : List Int} {f1 : Int} {w' : World} {m : Nat} (hq : W.drewN m = w') (h : IsS121 w0 W g f0 f1) : IsS121 w0 w' g f0 f1 := by subst hq; exact IsS121.drewN h m
theorem IsS121.apart {w0 W : World} {g : Nat} {f0 : List Int} {f1 : Int} {α : Type} {d : Kd α} {e : Nat} {base : Nat} {ok : Nat → Prop} {v : Value} {xs : List α} (h : IsS121 w0 W g f0 f1) (ho : d.R e W base ok v xs) (ht : ∀ q, q ∈ e :: d.E → q ≠ 121) : d.R e W base (fun k => ok k ∧ k ≠ g) v xs := by
 obtain ⟨A0, c0, hb, hg, hr0⟩ := h
 exact Kd.R_types ho hb ht
theorem IsS121.own_ne {w0 W : World} {g : Nat} {f0 : List Int} {f1 : Int} {α : Type} {d : Kd α} {e : Nat} {base : Nat} {ok : Nat → Prop} {v : Value} {xs : List α} (h : IsS121 w0 W g f0 f1) (ho : d.R e W base ok v xs) (ht : e ≠ 121) : some g ≠ v.ownBlock := by
 obtain ⟨A0, c0, hb, hg, hr0⟩ := h
 exact Kd.R_ne ho hb ht
theorem IsS121.apartQ {w0 W : World} {g : Nat} {f0 : List Int} {f1 : Int} {α : Type} {d : Kd α} {e : Nat} {base : Nat} {ok : Nat → Prop} {v : Value} {xs : List α} (h : IsS121 w0 W g f0 f1) (ho : d.Q e W base ok v xs) (ht : ∀ q, q ∈ e :: d.E → q ≠ 121) : d.Q e W base (fun k => ok k ∧ k ≠ g) v xs := by
 obtain ⟨A0, c0, hb, hg, hr0⟩ := h
 exact Kd.Q_types ho hb ht
theorem IsS121.own_neQ {w0 W : World} {g : Nat} {f0 : List Int} {f1 : Int} {α : Type} {d : Kd α} {e : Nat} {base : Nat} {ok : Nat → Prop} {v : Value} {xs : List α} (h : IsS121 w0 W g f0 f1) (ho : d.Q e W base ok v xs) (ht : e ≠ 121) : some g ≠ v.ownBlock := by
 obtain ⟨A0, c0, hb, hg, hr0⟩ := h
 exact Kd.Q_ne ho hb ht
theorem IsS121.apartS {w0 W : World} {g : Nat} {f0 : List Int} {f1 : Int} {α : Type} {d : Kd α} {e : Nat} {base : Nat} {ok : Nat → Prop} {v : Value} {xs : List α} (h : IsS121 w0 W g f0 f1) (ho : d.S e W base ok v xs) (ht : ∀ q, q ∈ e :: d.E → q ≠ 121) : d.S e W base (fun k => ok k ∧ k ≠ g) v xs := by
 obtain ⟨A0, c0, hb, hg, hr0⟩ := h
 exact Kd.S_types ho hb ht
theorem IsS121.own_neS {w0 W : World} {g : Nat} {f0 : List Int} {f1 : Int} {α : Type} {d : Kd α} {e : Nat} {base : Nat} {ok : Nat → Prop} {v : Value} {xs : List α} (h : IsS121 w0 W g f0 f1) (ho : d.S e W base ok v xs) (ht : e ≠ 121) : some g ≠ v.ownBlock := by
 obtain ⟨A0, c0, hb, hg, hr0⟩ := h
 exact Kd.S_ne ho hb ht
theorem IsS121.lt {w0 W : World} {g : Nat} {f0 : List Int} {f1 : Int} (h : IsS121 w0 W g f0 f1) : g < W.heap.size := by
 obtain ⟨A0, c0, hb, hg, hr0⟩ := h
 exact blk_lt hb
theorem IsS121.ge {w0 W : World} {g : Nat} {f0 : List Int} {f1 : Int} (h : IsS121 w0 W g f0 f1) : w0.heap.size ≤ g := by
 obtain ⟨A0, c0, hb, hg, hr0⟩ := h
 exact hg
theorem IsS121.ne_blk {w0 W : World} {g : Nat} {f0 : List Int} {f1 : Int} {a : Nat} {cs : Array Value} {t : TypeId} {fr : Nat × Nat} (h : IsS121 w0 W g f0 f1) (hb2 : W.heap[a]? = some (.cells cs t fr)) (ht : t ≠ 121) : g ≠ a := by
 obtain ⟨A0, c0, hb, hg, hr0⟩ := h
 rintro rfl
 rw [hb] at hb2
 injection hb2 with hb2
 injection hb2 with _ ht2
 exact ht ht2.symm
theorem IsS121.far {w0 W : World} {g : Nat} {f0 : List Int} {f1 : Int} {p : Addr} (h : IsS121 w0 W g f0 f1) (hne : g ≠ p.block) (u : Value) : IsS121 w0 (W.setCell p u) g f0 f1 := by
 obtain ⟨A0, c0, hb, hg, hr0⟩ := h
 exact ⟨A0, c0, blk_far hb hne u, hg, hr0⟩
theorem cellS121_0 {W : World} {g : Nat} {A0 : Option Addr} {c0 : Nat} {f0 : List Int} {f1 : Int} (h : W.heap[g]? = some (.cells #[.slice A0 f0.length c0, .int .i64 f1] 121 (0, 0))) : W.cell? ⟨g, 0, none⟩ = some (.slice A0 f0.length c0) := (blk_cell h 0).trans rfl
theorem cellS121_1 {W : World} {g : Nat} {A0 : Option Addr} {c0 : Nat} {f0 : List Int} {f1 : Int} (h : W.heap[g]? = some (.cells #[.slice A0 f0.length c0, .int .i64 f1] 121 (0, 0))) : W.cell? ⟨g, 1, none⟩ = some (.int .i64 f1) := (blk_cell h 1).trans rfl
theorem IsS121.set_1 {w0 W : World} {g : Nat} {f0 : List Int} {f1 : Int} (h : IsS121 w0 W g f0 f1) (x : Int) : IsS121 w0 (W.setCell ⟨g, 1, none⟩ (.int .i64 x)) g f0 x := by
 obtain ⟨A0, c0, hb, hg, hr0⟩ := h
 exact ⟨A0, c0, by simpa using blk_set hb 1 (.int .i64 x), hg, hr0⟩
theorem IsS121.new (w0 W : World) (A0 : Option Addr) (c0 : Nat) (f0 : List Int) (f1 : Int) (hB : Below w0.heap.size w0 W) (hr0 : Kd.C (Kd.int .u8) w0 A0 f0.length f0) : IsS121 w0 (W.alloc (.cells #[.slice A0 f0.length c0, .int .i64 f1] 121)) W.heap.size f0 f1 := ⟨A0, c0, by simpa using heap_alloc_new W _, hB.size, hr0⟩

/-! ### spec_l40Open: function 67 -/
def spec_l40Open.f (l0 : List Int) : Option (List Int × Int) := if (l0.length : Int) > 2000 then (if 2000 ≤ (l0.length : Int) then (some (l0.take 2000, 0)) else (none)) else (some (l0, 0))
set_option maxHeartbeats 8000000 in
set_option maxRecDepth 100000 in
theorem spec_l40Open.calls (A0 : Option Addr) (c0 : Nat) (l0 : List Int) (r1 : List Int) (r2 : Int) (w0 w : World) (hB : Below w0.heap.size w0 w) (hr0 : Kd.C (Kd.int .u8) w0 A0 l0.length l0) (hc0 : l0.length ≤ c0) (h : spec_l40Open.f l0 = some (r1, r2)) :
  Calls Try.prog 67 #[.slice A0 l0.length c0] w fun e w' => ∃ g_ : Nat, e = .returned (.pointer (some ⟨g_, 0, none⟩)) ∧ IsS121 w0 w' g_ r1 r2 ∧ Below w0.heap.size w0 w' ∧ Below w.heap.size w w' := by
 have hu121 := Try.underlying121
 have HR0 := Aside0.mk hr0
 have HC0 := Aside0.mk hc0
 clear hr0 hc0
 have HBW := Aside0.mk (Below.refl w.heap.size w)
 have HW0 := Aside0.mk hB.size
 have HB := Aside0.mk hB
 clear hB
 have H : (if (l0.length : Int) > 2000 then (if 2000 ≤ (l0.length : Int) then (some (l0.take 2000, 0)) else (none)) else (some (l0, 0))) = some (r1, r2) := h
 clear h
 by_cases c2 : (l0.length : Int) > 2000
 ·rw [if_pos c2] at H
  have c2b0 : decide (2000 < (l0.length : Int)) = true := decide_eq_true c2
  have c2b1 : decide (2000 < l0.length) = true := decide_eq_true (by omega)
  clear c2
  by_cases c3 : 2000 ≤ (l0.length : Int)
  ·rw [if_pos c3] at H
   have c3b0 := eq_true c3
   have c3b1 : decide (2000 ≤ (l0.length : Int)) = true := decide_eq_true c3
   clear c3
   simp only [Option.some.injEq, Prod.mk.injEq] at H
   obtain ⟨rfl, rfl⟩ := H
   obtain ⟨i04, hi04, _, hsz4, _⟩ := info_parts info5
   obtain ⟨hcut4, hA4, hC4⟩ := print_take_of (P := Try.prog) (Value.int .u8) 0 35 5 .i64 Try.underlying35 hi04 hsz4 A0 c0 l0 2000 (by omega) (oda) HC0.out
   have HR176 := Aside0.mk (Kd.C_of_reads (h1 := fun _ => rfl) (hA4 _ (Kd.reads_of_C HR0.out)))
   have HC176 := Aside0.mk hC4
   clear hA4 hC4 hi04 hsz4
   go_enter Try.func67, Try.ntmps67
   go_wp2_with (first | ((with_reducible refine gate_dst (N := 10) rfl ?_); refine box_event ?hg (N := 10) ?hd (cs := #[.slice A0 (l0.take 2000).length c0, .int .i64 0]) (t := 121) ?hr ?_; (case hd => rfl); (case hg => rfl); (case hr => first | (go_simp; done) | (go_simp; rfl)); intro gb177 hg w5 hbox hb; have n0_ := Aside0.mk (below_step HBW.out hb); have n1_ := Aside0.mk (below_step hbB hb); have n2_ := Aside0.mk (hbox); have n3_ := Aside0.mk ((by rw [hg]; exact (below_size (by repeat (first | (with_reducible first | exact HBW.out | apply bwA | apply bwN | apply bwD) | exact HBW.out))) : w.heap.size ≤ gb177)); have n4_ := Aside0.mk ((Nat.le_trans HW0.out (by rw [hg]; exact (below_size (by repeat (first | (with_reducible first | exact HBW.out | apply bwA | apply bwN | apply bwD) | exact HBW.out))) : w.heap.size ≤ gb177) : w0.heap.size ≤ gb177)); clear HBW; clear HB; have HBW := n0_; have HB := n1_; have BK177 := n2_; have GW177 := n3_; have GE177 := n4_; clear n0_ n1_ n2_ n3_ n4_; clear hb hbox hg))
   go_ret
   exact ⟨_, rfl, (show IsS121 w0 _ gb177 (l0.take 2000) 0 from ⟨_, _, by (with_reducible repeat (first | refine blk_drewN ?_ _ | refine blk_drew ?_ | refine blk_alloc ?_ _)); exact BK177.out, GE177.out, HR176.out⟩), hbC, by repeat (first | (with_reducible first | exact HBW.out | apply bwA | apply bwN | apply bwD | refine below_set ?_ GW177.out) | exact HBW.out)⟩
  ·rw [if_neg c3] at H
   exact absurd H (by simp)
 ·rw [if_neg c2] at H
  have c2b0 : decide (2000 < (l0.length : Int)) = false := decide_eq_false c2
  have c2b1 : decide (2000 < l0.length) = false := decide_eq_false (by omega)
  clear c2
  simp only [Option.some.injEq, Prod.mk.injEq] at H
  obtain ⟨rfl, rfl⟩ := H
  go_enter Try.func67, Try.ntmps67
  go_wp2_with (first | ((with_reducible refine gate_dst (N := 10) rfl ?_); refine box_event ?hg (N := 10) ?hd (cs := #[.slice A0 l0.length c0, .int .i64 0]) (t := 121) ?hr ?_; (case hd => rfl); (case hg => rfl); (case hr => first | (go_simp; done) | (go_simp; rfl)); intro gb178 hg w6 hbox hb; have n0_ := Aside0.mk (below_step HBW.out hb); have n1_ := Aside0.mk (below_step hbB hb); have n2_ := Aside0.mk (hbox); have n3_ := Aside0.mk ((by rw [hg]; exact (below_size (by repeat (first | (with_reducible first | exact HBW.out | apply bwA | apply bwN | apply bwD) | exact HBW.out))) : w.heap.size ≤ gb178)); have n4_ := Aside0.mk ((Nat.le_trans HW0.out (by rw [hg]; exact (below_size (by repeat (first | (with_reducible first | exact HBW.out | apply bwA | apply bwN | apply bwD) | exact HBW.out))) : w.heap.size ≤ gb178) : w0.heap.size ≤ gb178)); clear HBW; clear HB; have HBW := n0_; have HB := n1_; have BK178 := n2_; have GW178 := n3_; have GE178 := n4_; clear n0_ n1_ n2_ n3_ n4_; clear hb hbox hg))
  go_ret
  exact ⟨_, rfl, (show IsS121 w0 _ gb178 l0 0 from ⟨_, _, by (with_reducible repeat (first | refine blk_drewN ?_ _ | refine blk_drew ?_ | refine blk_alloc ?_ _)); exact BK178.out, GE178.out, HR0.out⟩), hbC, by repeat (first | (with_reducible first | exact HBW.out | apply bwA | apply bwN | apply bwD | refine below_set ?_ GW178.out) | exact HBW.out)⟩

/-! ### spec_l40Rd_pick: function 79 -/
def spec_l40Rd_pick.j0 : Nat → Int → Bool → List Int → Int → Option (Int × Int)
 | 0, _, _, _, _ => none
 | k + 1, x1, x24, x1000, x1001 => if x24 = true then (some (0, x1001)) else (if (wrap64 (x1001 - 1)) < (x1000.length : Int) then (if 0 ≤ (wrap64 (x1001 - 1)) then (if x1 = 0 then (none) else (some (Int.tmod (wrap64 (rd x1000 (wrap64 (x1001 - 1)))) x1, x1001))) else (none)) else (if (x1000.length : Int) = 0 then (none) else (if 0 ≤ (Int.tmod (wrap64 (x1001 - 1)) (x1000.length : Int)) then (if (Int.tmod (wrap64 (x1001 - 1)) (x1000.length : Int)) < (x1000.length : Int) then (if 0 ≤ (Int.tmod (wrap64 ((wrap64 ((wrap64 (x1001 - 1)) * 7)) + 3)) (x1000.length : Int)) then (if (Int.tmod (wrap64 ((wrap64 ((wrap64 (x1001 - 1)) * 7)) + 3)) (x1000.length : Int)) < (x1000.length : Int) then (if x1 = 0 then (none) else (some (Int.tmod (Go.bits .xor .i64 (wrap64 ((wrap64 ((wrap64 ((wrap64 ((wrap64 (rd x1000 (Int.tmod (wrap64 (x1001 - 1)) (x1000.length : Int)))) * 131)) + (wrap64 ((wrap64 (rd x1000 (Int.tmod (wrap64 ((wrap64 ((wrap64 (x1001 - 1)) * 7)) + 3)) (x1000.length : Int)))) * 1117)))) + (wrap64 ((wrap64 (x1001 - 1)) * 29)))) + (wrap64 ((wrap64 (Int.tdiv (wrap64 (x1001 - 1)) (x1000.length : Int))) * 53)))) (wrap64 (Int.tdiv (wrap64 ((wrap64 ((wrap64 ((wrap64 ((wrap64 (rd x1000 (Int.tmod (wrap64 (x1001 - 1)) (x1000.length : Int)))) * 131)) + (wrap64 ((wrap64 (rd x1000 (Int.tmod (wrap64 ((wrap64 ((wrap64 (x1001 - 1)) * 7)) + 3)) (x1000.length : Int)))) * 1117)))) + (wrap64 ((wrap64 (x1001 - 1)) * 29)))) + (wrap64 ((wrap64 (Int.tdiv (wrap64 (x1001 - 1)) (x1000.length : Int))) * 53)))) 64))) x1, x1001))) else (none)) else (none)) else (none)) else (none))))
def spec_l40Rd_pick.f (k : Nat) (s0_0 : List Int) (s0_1 : Int) (a1 : Int) : Option (Int × Int) := if a1 < 1 then (spec_l40Rd_pick.j0 k a1 true s0_0 (wrap64 (s0_1 + 1))) else (spec_l40Rd_pick.j0 k a1 ((s0_0.length : Int) == 0) s0_0 (wrap64 (s0_1 + 1)))
theorem spec_l40Rd_pick.mono_l : ∀ k, (∀ y0 y1 y2 y3, LeO (spec_l40Rd_pick.j0 k y0 y1 y2 y3) (spec_l40Rd_pick.j0 (k + 1) y0 y1 y2 y3))
 | 0 => fun _ _ _ _ r h => by simp [spec_l40Rd_pick.j0] at h
 | k + 1 => by
  have ih0 := spec_l40Rd_pick.mono_l k
  ·intro y0 y1 y2 y3
   unfold spec_l40Rd_pick.j0
   repeat' first
   | (with_reducible exact ih0 _ _ _ _)
   | (with_reducible exact LeO.refl _)
   | (with_reducible exact LeO.none _)
   | (with_reducible refine LeO.ite ?_ ?_)
   | (with_reducible refine LeO.bind ?_ (fun _ => ?_))
   | exact ih0 _ _ _ _
   | exact LeO.none _
   | refine LeO.ite ?_ ?_
   | refine LeO.bind ?_ (fun _ => ?_)
theorem spec_l40Rd_pick.mono : ∀ a0 a1 a2 k, LeO (spec_l40Rd_pick.f k a0 a1 a2) (spec_l40Rd_pick.f (k + 1) a0 a1 a2) := by
 intro a0 a1 a2 k
 have ih0 := spec_l40Rd_pick.mono_l k
 unfold spec_l40Rd_pick.f
 repeat' first
   | (with_reducible exact ih0 _ _ _ _)
   | (with_reducible exact LeO.refl _)
   | (with_reducible exact LeO.none _)
   | (with_reducible refine LeO.ite ?_ ?_)
   | (with_reducible refine LeO.bind ?_ (fun _ => ?_))
   | exact ih0 _ _ _ _
   | exact LeO.none _
   | refine LeO.ite ?_ ?_
   | refine LeO.bind ?_ (fun _ => ?_)
set_option maxHeartbeats 8000000 in
set_option maxRecDepth 100000 in
theorem spec_l40Rd_pick.calls (k : Nat) (g : Nat) (s0_0 : List Int) (s0_1 : Int) (a1 : Int) (r1 : Int) (r2 : Int) (w0 w : World) (hI : IsS121 w0 w g s0_0 s0_1) (hB : Below w0.heap.size w0 w) (h : spec_l40Rd_pick.f k s0_0 s0_1 a1 = some (r1, r2)) :
  Calls Try.prog 79 #[.pointer (some ⟨g, 0, none⟩), .int .i64 a1] w fun e w' => e = .returned (.int .i64 r1) ∧ IsS121 w0 w' g s0_0 r2 ∧ Below w0.heap.size w0 w' ∧ KeepBut w w' g none := by
 have HI0 := Aside0.mk hI
 have HK := Aside0.mk (KeepBut.refl w g none)
 have HL := Aside0.mk hB.size
 clear hI
 have HW0 := Aside0.mk hB.size
 have HB := Aside0.mk hB
 clear hB
 have H : (if a1 < 1 then (spec_l40Rd_pick.j0 k a1 true s0_0 (wrap64 (s0_1 + 1))) else (spec_l40Rd_pick.j0 k a1 ((s0_0.length : Int) == 0) s0_0 (wrap64 (s0_1 + 1)))) = some (r1, r2) := h
 clear h
 have HC3 := Aside0.mk H
 clear H
 obtain ⟨ASz4_0, cSz4_0, HGz4, hgz4, HSz4_0⟩ := HI0.out
 have hcz4_0 := cellS121_0 HGz4
 have hcz4_1 := cellS121_1 HGz4
 have hfz4_1 := blk_frozen HGz4 1
 clear HGz4 hgz4
 go_enter Try.func79, Try.ntmps79
 iterate 5 (go_upto_region 2 with (fail); try go_quiet (fail))
 go_cut [24] (fun v24 wc => ∃ (kq : Nat) (x24_2 : Bool), v24 = .bool x24_2 ∧ Aside0 (spec_l40Rd_pick.j0 kq a1 x24_2 s0_0 (wrap64 (s0_1 + 1)) = some (r1, r2)) ∧ Aside0 (kq ≤ k) ∧ Aside0 (IsS121 w0 wc g s0_0 (wrap64 (s0_1 + 1))) ∧ Aside0 (KeepBut w wc g none) ∧ Aside0 (Below w0.heap.size w0 wc))
 case first =>
  have H := HC3.out
  clear HC3
  by_cases c5 : a1 < 1
  ·rw [if_pos c5] at H
   have c5b0 : decide (a1 < 1) = true := decide_eq_true c5
   clear c5
   (first | rw [c5b0] | (simp only [i64_w, i32_w]; rw [c5b0]) | skip)
   have H' := Aside0.mk H
   clear H
   go_wp2
   repeat (go_quiet (fail); try go_wp2)
   go_meet
   case rel => exact ⟨_, (true), rsd, H', ⟨by first | omega | exact Nat.le_refl _⟩, ⟨by repeat (first | (with_reducible first | exact HI0.out | apply IsS121.alloc | apply IsS121.drewN | apply IsS121.drew | apply IsS121.set_1) | exact HI0.out)⟩, ⟨by repeat (first | (with_reducible first | exact HK.out | apply KeepBut.set_ | apply keep_drewN | apply keep_drew | apply keep_alloc) | exact HK.out)⟩, ⟨by repeat (first | (with_reducible first | exact HB.out | apply bwA | apply bwN | apply bwD | refine below_set ?_ (IsS121.ge HI0.out)) | exact HB.out)⟩⟩
  ·rw [if_neg c5] at H
   have c5b0 : decide (a1 < 1) = false := decide_eq_false c5
   clear c5
   (first | rw [c5b0] | (simp only [i64_w, i32_w]; rw [c5b0]) | skip)
   have H' := Aside0.mk H
   clear H
   obtain ⟨ASz6_0, cSz6_0, HGz6, hgz6, HSz6_0⟩ := HI0.out
   have hcz6_0 := cellS121_0 HGz6
   have hcz6_1 := cellS121_1 HGz6
   have hfz6_1 := blk_frozen HGz6 1
   clear HGz6 hgz6
   go_wp2
   repeat (go_quiet (fail); try go_wp2)
   go_meet
   case rel => exact ⟨_, (((s0_0.length : Int) == 0)), rsd, H', ⟨by first | omega | exact Nat.le_refl _⟩, ⟨by repeat (first | (with_reducible first | exact HI0.out | apply IsS121.alloc | apply IsS121.drewN | apply IsS121.drew | apply IsS121.set_1) | exact HI0.out)⟩, ⟨by repeat (first | (with_reducible first | exact HK.out | apply KeepBut.set_ | apply keep_drewN | apply keep_drew | apply keep_alloc) | exact HK.out)⟩, ⟨by repeat (first | (with_reducible first | exact HB.out | apply bwA | apply bwN | apply bwD | refine below_set ?_ (IsS121.ge HI0.out)) | exact HB.out)⟩⟩
 case rest =>
  clear HC3
  try clear p2
  try clear c5
  try clear c5b0
  try clear p6
  try clear hcz4_0
  try clear hcz4_1
  try clear hcz6_0
  try clear hcz6_1
  try clear hfz4_1
  try clear hfz6_1
  obtain ⟨kq, x24_2, rfl, HA, HJ2, HI0, HK, HB⟩ := hcut
  cases kq with
  | zero => exact absurd HA.out (by simp [spec_l40Rd_pick.j0])
  | succ kj2 =>
   have H := HA.out
   clear HA
   simp only [spec_l40Rd_pick.j0] at H
   by_cases c7 : x24_2 = true
   ·subst c7
    have H1 : (some (0, (wrap64 (s0_1 + 1)))) = some (r1, r2) := by rw [if_pos rfl] at H; exact H
    clear H
    have H := H1
    clear H1
    simp only [Option.some.injEq, Prod.mk.injEq] at H
    obtain ⟨rfl, rfl⟩ := H
    go_wp2
    repeat (go_quiet (fail); try go_wp2)
    go_ret
    exact ⟨ers, by repeat (first | (with_reducible first | exact HI0.out | apply IsS121.alloc | apply IsS121.drewN | apply IsS121.drew | apply IsS121.set_1) | exact HI0.out), by repeat (first | (with_reducible first | exact HB.out | apply bwA | apply bwN | apply bwD | refine below_set ?_ (IsS121.ge HI0.out)) | exact HB.out), by repeat (first | (with_reducible first | exact HK.out | apply KeepBut.set_ | apply keep_drewN | apply keep_drew | apply keep_alloc) | exact HK.out)⟩
   ·replace c7 := Bool.eq_false_iff.mpr c7
    subst c7
    have H1 : (if (wrap64 ((wrap64 (s0_1 + 1)) - 1)) < (s0_0.length : Int) then (if 0 ≤ (wrap64 ((wrap64 (s0_1 + 1)) - 1)) then (if a1 = 0 then (none) else (some (Int.tmod (wrap64 (rd s0_0 (wrap64 ((wrap64 (s0_1 + 1)) - 1)))) a1, (wrap64 (s0_1 + 1))))) else (none)) else (if (s0_0.length : Int) = 0 then (none) else (if 0 ≤ (Int.tmod (wrap64 ((wrap64 (s0_1 + 1)) - 1)) (s0_0.length : Int)) then (if (Int.tmod (wrap64 ((wrap64 (s0_1 + 1)) - 1)) (s0_0.length : Int)) < (s0_0.length : Int) then (if 0 ≤ (Int.tmod (wrap64 ((wrap64 ((wrap64 ((wrap64 (s0_1 + 1)) - 1)) * 7)) + 3)) (s0_0.length : Int)) then (if (Int.tmod (wrap64 ((wrap64 ((wrap64 ((wrap64 (s0_1 + 1)) - 1)) * 7)) + 3)) (s0_0.length : Int)) < (s0_0.length : Int) then (if a1 = 0 then (none) else (some (Int.tmod (Go.bits .xor .i64 (wrap64 ((wrap64 ((wrap64 ((wrap64 ((wrap64 (rd s0_0 (Int.tmod (wrap64 ((wrap64 (s0_1 + 1)) - 1)) (s0_0.length : Int)))) * 131)) + (wrap64 ((wrap64 (rd s0_0 (Int.tmod (wrap64 ((wrap64 ((wrap64 ((wrap64 (s0_1 + 1)) - 1)) * 7)) + 3)) (s0_0.length : Int)))) * 1117)))) + (wrap64 ((wrap64 ((wrap64 (s0_1 + 1)) - 1)) * 29)))) + (wrap64 ((wrap64 (Int.tdiv (wrap64 ((wrap64 (s0_1 + 1)) - 1)) (s0_0.length : Int))) * 53)))) (wrap64 (Int.tdiv (wrap64 ((wrap64 ((wrap64 ((wrap64 ((wrap64 (rd s0_0 (Int.tmod (wrap64 ((wrap64 (s0_1 + 1)) - 1)) (s0_0.length : Int)))) * 131)) + (wrap64 ((wrap64 (rd s0_0 (Int.tmod (wrap64 ((wrap64 ((wrap64 ((wrap64 (s0_1 + 1)) - 1)) * 7)) + 3)) (s0_0.length : Int)))) * 1117)))) + (wrap64 ((wrap64 ((wrap64 (s0_1 + 1)) - 1)) * 29)))) + (wrap64 ((wrap64 (Int.tdiv (wrap64 ((wrap64 (s0_1 + 1)) - 1)) (s0_0.length : Int))) * 53)))) 64))) a1, (wrap64 (s0_1 + 1))))) else (none)) else (none)) else (none)) else (none)))) = some (r1, r2) := by rw [if_neg (show ¬ (false = true) by decide)] at H; exact H
    clear H
    have H := H1
    clear H1
    by_cases c8 : (wrap64 ((wrap64 (s0_1 + 1)) - 1)) < (s0_0.length : Int)
    ·rw [if_pos c8] at H
     have c8b0 : decide ((wrap64 ((wrap64 (s0_1 + 1)) - 1)) < (s0_0.length : Int)) = true := decide_eq_true c8
     clear c8
     obtain ⟨ji9, hji9⟩ : ∃ j_ : Int, (wrap64 ((wrap64 (s0_1 + 1)) - 1)) = j_ := ⟨_, rfl⟩
     replace H : (if 0 ≤ (ji9) then (if a1 = 0 then (none) else (some (Int.tmod (wrap64 (rd s0_0 (ji9))) a1, (wrap64 (s0_1 + 1))))) else (none)) = some (r1, r2) := by first | (rw [hji9] at H; exact H) | (simp only [hji9] at H ⊢; exact H)
     (try rw [hji9] at c8b0)
     have hji9w : (IntKind.i64.wrap ((wrap64 (s0_1 + 1)) - 1)) = ji9 := (i64_w _).trans hji9
     by_cases c10 : 0 ≤ (ji9)
     ·rw [if_pos c10] at H
      have c10b0 : decide (0 ≤ (ji9)) = true := decide_eq_true c10
      clear c10
      by_cases c11 : a1 = 0
      ·rw [if_pos c11] at H
       exact absurd H (by simp)
      ·rw [if_neg c11] at H
       have c11b0 : (a1 == 0) = false := beq_eq_false_iff_ne.mpr c11
       have c11b1 : (a1 != 0) = true := bne_iff_ne.mpr c11
       simp only [Option.some.injEq, Prod.mk.injEq] at H
       obtain ⟨rfl, rfl⟩ := H
       obtain ⟨ASz12_0, cSz12_0, HGz12, hgz12, HSz12_0⟩ := HI0.out
       have hcz12_0 := cellS121_0 HGz12
       have hcz12_1 := cellS121_1 HGz12
       have hfz12_1 := blk_frozen HGz12 1
       clear HGz12 hgz12
       have p179 : 0 ≤ ((ji9) : Int) := oda
       have q179 : (ji9) < (s0_0.length : Int) := oda
       obtain ⟨ad179, e179, hx179_0⟩ := Kd.at_int HSz12_0 (ji9) p179 q179
       cases e179
       replace hx179_0 := pw_cell_below HB.out hx179_0
       replace p179 := eq_true p179
       replace q179 := eq_true q179
       go_wp2
       repeat (go_quiet (fail); try go_wp2)
       go_ret
       exact ⟨by first | rfl | (simp [errW_none, errW_some] <;> rfl) | (simp only [← hji9]; first | rfl | (simp [errW_none, errW_some] <;> rfl)) | (simp [*, errW_none, errW_some] <;> rfl), by repeat (first | (with_reducible first | exact HI0.out | apply IsS121.alloc | apply IsS121.drewN | apply IsS121.drew | apply IsS121.set_1) | exact HI0.out), by repeat (first | (with_reducible first | exact HB.out | apply bwA | apply bwN | apply bwD | refine below_set ?_ (IsS121.ge HI0.out)) | exact HB.out), by repeat (first | (with_reducible first | exact HK.out | apply KeepBut.set_ | apply keep_drewN | apply keep_drew | apply keep_alloc) | exact HK.out)⟩
     ·rw [if_neg c10] at H
      exact absurd H (by simp)
    ·rw [if_neg c8] at H
     have c8b0 : decide ((wrap64 ((wrap64 (s0_1 + 1)) - 1)) < (s0_0.length : Int)) = false := decide_eq_false c8
     clear c8
     by_cases c13 : (s0_0.length : Int) = 0
     ·rw [if_pos c13] at H
      exact absurd H (by simp)
     ·rw [if_neg c13] at H
      have c13b0 : ((s0_0.length : Int) == 0) = false := beq_eq_false_iff_ne.mpr c13
      have c13b1 : ((s0_0.length : Int) != 0) = true := bne_iff_ne.mpr c13
      have c13b2 : ¬ (s0_0 = []) := fun h_ => c13 (by rw [h_]; rfl)
      obtain ⟨ji14, hji14⟩ : ∃ j_ : Int, (Int.tmod (wrap64 ((wrap64 (s0_1 + 1)) - 1)) (s0_0.length : Int)) = j_ := ⟨_, rfl⟩
      replace H : (if 0 ≤ (ji14) then (if (ji14) < (s0_0.length : Int) then (if 0 ≤ (Int.tmod (wrap64 ((wrap64 ((wrap64 ((wrap64 (s0_1 + 1)) - 1)) * 7)) + 3)) (s0_0.length : Int)) then (if (Int.tmod (wrap64 ((wrap64 ((wrap64 ((wrap64 (s0_1 + 1)) - 1)) * 7)) + 3)) (s0_0.length : Int)) < (s0_0.length : Int) then (if a1 = 0 then (none) else (some (Int.tmod (Go.bits .xor .i64 (wrap64 ((wrap64 ((wrap64 ((wrap64 ((wrap64 (rd s0_0 (ji14))) * 131)) + (wrap64 ((wrap64 (rd s0_0 (Int.tmod (wrap64 ((wrap64 ((wrap64 ((wrap64 (s0_1 + 1)) - 1)) * 7)) + 3)) (s0_0.length : Int)))) * 1117)))) + (wrap64 ((wrap64 ((wrap64 (s0_1 + 1)) - 1)) * 29)))) + (wrap64 ((wrap64 (Int.tdiv (wrap64 ((wrap64 (s0_1 + 1)) - 1)) (s0_0.length : Int))) * 53)))) (wrap64 (Int.tdiv (wrap64 ((wrap64 ((wrap64 ((wrap64 ((wrap64 (rd s0_0 (ji14))) * 131)) + (wrap64 ((wrap64 (rd s0_0 (Int.tmod (wrap64 ((wrap64 ((wrap64 ((wrap64 (s0_1 + 1)) - 1)) * 7)) + 3)) (s0_0.length : Int)))) * 1117)))) + (wrap64 ((wrap64 ((wrap64 (s0_1 + 1)) - 1)) * 29)))) + (wrap64 ((wrap64 (Int.tdiv (wrap64 ((wrap64 (s0_1 + 1)) - 1)) (s0_0.length : Int))) * 53)))) 64))) a1, (wrap64 (s0_1 + 1))))) else (none)) else (none)) else (none)) else (none)) = some (r1, r2) := by first | (rw [hji14] at H; exact H) | (simp only [hji14] at H ⊢; exact H)
      by_cases c15 : 0 ≤ (ji14)
      ·rw [if_pos c15] at H
       have c15b0 : decide (0 ≤ (ji14)) = true := decide_eq_true c15
       clear c15
       by_cases c16 : (ji14) < (s0_0.length : Int)
       ·rw [if_pos c16] at H
        have c16b0 : decide ((ji14) < (s0_0.length : Int)) = true := decide_eq_true c16
        clear c16
        obtain ⟨ji17, hji17⟩ : ∃ j_ : Int, (Int.tmod (wrap64 ((wrap64 ((wrap64 ((wrap64 (s0_1 + 1)) - 1)) * 7)) + 3)) (s0_0.length : Int)) = j_ := ⟨_, rfl⟩
        replace H : (if 0 ≤ (ji17) then (if (ji17) < (s0_0.length : Int) then (if a1 = 0 then (none) else (some (Int.tmod (Go.bits .xor .i64 (wrap64 ((wrap64 ((wrap64 ((wrap64 ((wrap64 (rd s0_0 (ji14))) * 131)) + (wrap64 ((wrap64 (rd s0_0 (ji17))) * 1117)))) + (wrap64 ((wrap64 ((wrap64 (s0_1 + 1)) - 1)) * 29)))) + (wrap64 ((wrap64 (Int.tdiv (wrap64 ((wrap64 (s0_1 + 1)) - 1)) (s0_0.length : Int))) * 53)))) (wrap64 (Int.tdiv (wrap64 ((wrap64 ((wrap64 ((wrap64 ((wrap64 (rd s0_0 (ji14))) * 131)) + (wrap64 ((wrap64 (rd s0_0 (ji17))) * 1117)))) + (wrap64 ((wrap64 ((wrap64 (s0_1 + 1)) - 1)) * 29)))) + (wrap64 ((wrap64 (Int.tdiv (wrap64 ((wrap64 (s0_1 + 1)) - 1)) (s0_0.length : Int))) * 53)))) 64))) a1, (wrap64 (s0_1 + 1))))) else (none)) else (none)) = some (r1, r2) := by first | (rw [hji17] at H; exact H) | (simp only [hji17] at H ⊢; exact H)
        by_cases c18 : 0 ≤ (ji17)
        ·rw [if_pos c18] at H
         have c18b0 : decide (0 ≤ (ji17)) = true := decide_eq_true c18
         clear c18
         by_cases c19 : (ji17) < (s0_0.length : Int)
         ·rw [if_pos c19] at H
          have c19b0 : decide ((ji17) < (s0_0.length : Int)) = true := decide_eq_true c19
          clear c19
          by_cases c20 : a1 = 0
          ·rw [if_pos c20] at H
           exact absurd H (by simp)
          ·rw [if_neg c20] at H
           have c20b0 : (a1 == 0) = false := beq_eq_false_iff_ne.mpr c20
           have c20b1 : (a1 != 0) = true := bne_iff_ne.mpr c20
           simp only [Option.some.injEq, Prod.mk.injEq] at H
           obtain ⟨rfl, rfl⟩ := H
           obtain ⟨ASz21_0, cSz21_0, HGz21, hgz21, HSz21_0⟩ := HI0.out
           have hcz21_0 := cellS121_0 HGz21
           have hcz21_1 := cellS121_1 HGz21
           have hfz21_1 := blk_frozen HGz21 1
           clear HGz21 hgz21
           have p180 : 0 ≤ ((ji14) : Int) := oda
           have q180 : (ji14) < (s0_0.length : Int) := oda
           obtain ⟨ad180, e180, hx180_0⟩ := Kd.at_int HSz21_0 (ji14) p180 q180
           cases e180
           replace hx180_0 := pw_cell_below HB.out hx180_0
           replace p180 := eq_true p180
           replace q180 := eq_true q180
           have p181 : 0 ≤ ((ji17) : Int) := oda
           have q181 : (ji17) < (s0_0.length : Int) := oda
           obtain ⟨ad181, e181, hx181_0⟩ := Kd.at_int HSz21_0 (ji17) p181 q181
           obtain rfl : ad180 = ad181 := (by injection e181)
           replace hx181_0 := pw_cell_below HB.out hx181_0
           replace p181 := eq_true p181
           replace q181 := eq_true q181
           go_wp2
           repeat (go_quiet (fail); try go_wp2)
           go_ret
           exact ⟨by first | rfl | (simp [errW_none, errW_some] <;> rfl) | (simp only [← hji14, ← hji17]; first | rfl | (simp [errW_none, errW_some] <;> rfl)) | (simp [*, errW_none, errW_some] <;> rfl), by repeat (first | (with_reducible first | exact HI0.out | apply IsS121.alloc | apply IsS121.drewN | apply IsS121.drew | apply IsS121.set_1) | exact HI0.out), by repeat (first | (with_reducible first | exact HB.out | apply bwA | apply bwN | apply bwD | refine below_set ?_ (IsS121.ge HI0.out)) | exact HB.out), by repeat (first | (with_reducible first | exact HK.out | apply KeepBut.set_ | apply keep_drewN | apply keep_drew | apply keep_alloc) | exact HK.out)⟩
         ·rw [if_neg c19] at H
          exact absurd H (by simp)
        ·rw [if_neg c18] at H
         exact absurd H (by simp)
       ·rw [if_neg c16] at H
        exact absurd H (by simp)
      ·rw [if_neg c15] at H
       exact absurd H (by simp)

/-! ### spec_l40Rd_num: function 80 -/
def spec_l40Rd_num.f (k : Nat) (s0_0 : List Int) (s0_1 : Int) (l1 : List Int) : Option (Int × Int) := (spec_l40Rd_pick.f k s0_0 s0_1 (l1.length : Int)).bind fun bt182 => (if 0 ≤ bt182.1 then (if bt182.1 < (l1.length : Int) then (some (rd l1 bt182.1, bt182.2)) else (none)) else (none))
theorem spec_l40Rd_num.mono : ∀ a0 a1 a2 k, LeO (spec_l40Rd_num.f k a0 a1 a2) (spec_l40Rd_num.f (k + 1) a0 a1 a2) := by
 intro a0 a1 a2 k
 unfold spec_l40Rd_num.f
 repeat' first
   | (with_reducible exact spec_l40Rd_pick.mono _ _ _ _)
   | (with_reducible exact LeO.refl _)
   | (with_reducible exact LeO.none _)
   | (with_reducible refine LeO.ite ?_ ?_)
   | (with_reducible refine LeO.bind ?_ (fun _ => ?_))
   | exact spec_l40Rd_pick.mono _ _ _ _
   | exact LeO.none _
   | refine LeO.ite ?_ ?_
   | refine LeO.bind ?_ (fun _ => ?_)
set_option maxHeartbeats 8000000 in
set_option maxRecDepth 100000 in
theorem spec_l40Rd_num.calls (k : Nat) (g : Nat) (s0_0 : List Int) (s0_1 : Int) (A1 : Option Addr) (c1 : Nat) (l1 : List Int) (r1 : Int) (r2 : Int) (w0 w : World) (hI : IsS121 w0 w g s0_0 s0_1) (hB : Below w0.heap.size w0 w) (hr1 : Kd.C (Kd.int .i64) w A1 l1.length l1) (hc1 : l1.length ≤ c1) (hf1 : ∀ ad, A1 = some ad → 0 < l1.length → ad.block ≠ g) (h : spec_l40Rd_num.f k s0_0 s0_1 l1 = some (r1, r2)) :
  Calls Try.prog 80 #[.pointer (some ⟨g, 0, none⟩), .slice A1 l1.length c1] w fun e w' => e = .returned (.int .i64 r1) ∧ IsS121 w0 w' g s0_0 r2 ∧ Below w0.heap.size w0 w' ∧ KeepBut w w' g none := by
 have HR1 := Aside0.mk hr1
 have HC1 := Aside0.mk hc1
 clear hr1 hc1
 have HI0 := Aside0.mk hI
 have HK := Aside0.mk (KeepBut.refl w g none)
 have HL := Aside0.mk hB.size
 clear hI
 have HW0 := Aside0.mk hB.size
 have HB := Aside0.mk hB
 clear hB
 have H : ((spec_l40Rd_pick.f k s0_0 s0_1 (l1.length : Int)).bind fun bt182 => (if 0 ≤ bt182.1 then (if bt182.1 < (l1.length : Int) then (some (rd l1 bt182.1, bt182.2)) else (none)) else (none))) = some (r1, r2) := h
 clear h
 replace H := Option.bind_eq_some_iff.mp H
 obtain ⟨⟨t182, t183⟩, A30, H⟩ := H
 replace H : (if 0 ≤ t182 then (if t182 < (l1.length : Int) then (some (rd l1 t182, t183)) else (none)) else (none)) = some (r1, r2) := H
 have A3 := Aside0.mk A30
 clear A30
 by_cases c4 : 0 ≤ t182
 ·rw [if_pos c4] at H
  have c4b0 : decide (0 ≤ t182) = true := decide_eq_true c4
  clear c4
  by_cases c5 : t182 < (l1.length : Int)
  ·rw [if_pos c5] at H
   have c5b0 : decide (t182 < (l1.length : Int)) = true := decide_eq_true c5
   clear c5
   simp only [Option.some.injEq, Prod.mk.injEq] at H
   obtain ⟨rfl, rfl⟩ := H
   go_enter Try.func80, Try.ntmps80
   go_wp2_with (first | ((with_reducible refine gate_callee (f := 79) rfl ?_); refine goesL_ (some 9) rfl rfl Try.func79 (by kernel_rfl) rfl #[.pointer (some ⟨g, 0, none⟩), .int .i64 (l1.length : Int)] rfl lmB ?_; (with_reducible refine (spec_l40Rd_pick.calls k g s0_0 s0_1 (l1.length : Int) t182 t183 w0 _ ?side1 ?side2 A3.out).mono ?_); (case side1 => repeat (first | (with_reducible first | exact HI0.out | apply IsS121.alloc | apply IsS121.drewN | apply IsS121.drew | apply IsS121.set_1) | exact HI0.out)); (case side2 => repeat (first | (with_reducible first | exact HB.out | apply bwA | apply bwN | apply bwD | refine below_set ?_ (IsS121.ge HI0.out)) | exact HB.out)); rintro e w6 ⟨rfl, hi, hb, hk⟩; refine ⟨_, rfl, ?_⟩; have n0_ := Aside0.mk (KeepBut.trans (by repeat (first | (with_reducible first | exact HK.out | apply KeepBut.set_ | apply keep_drewN | apply keep_drew | apply keep_alloc) | exact HK.out)) hk (.inl rfl)); have n1_ := Aside0.mk (hb); have n2_ := Aside0.mk (hi); clear HK; clear HB; clear HI0; have HK := n0_; have HB := n1_; have HI0 := n2_; clear n0_ n1_ n2_; (try clear hb); (try clear hb2); (try clear hk); (try clear hi); have p184 : 0 ≤ (t182 : Int) := oda; have q184 : t182 < (l1.length : Int) := oda; obtain ⟨ad184, e184, hx184_0⟩ := Kd.at_int HR1.out t182 p184 q184; cases e184; replace hx184_0 := keep_cell HK.out hx184_0 (by first | (rw [add_block]; exact hf1 _ rfl (by omega)) | exact hf1 _ rfl (by omega) | exact hf1 ad184 rfl (by omega)); replace p184 := eq_true p184; replace q184 := eq_true q184))
   go_ret
   exact ⟨ers, by repeat (first | (with_reducible first | exact HI0.out | apply IsS121.alloc | apply IsS121.drewN | apply IsS121.drew | apply IsS121.set_1) | exact HI0.out), by repeat (first | (with_reducible first | exact HB.out | apply bwA | apply bwN | apply bwD | refine below_set ?_ (IsS121.ge HI0.out)) | exact HB.out), by repeat (first | (with_reducible first | exact HK.out | apply KeepBut.set_ | apply keep_drewN | apply keep_drew | apply keep_alloc) | exact HK.out)⟩
  ·rw [if_neg c5] at H
   exact absurd H (by simp)
 ·rw [if_neg c4] at H
  exact absurd H (by simp)

end Go.Proofs.Ytpcckoljocpchaa.QFnAddPick
