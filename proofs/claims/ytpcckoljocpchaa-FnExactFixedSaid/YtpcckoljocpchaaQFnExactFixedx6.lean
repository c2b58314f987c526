-- Written by a program of this session (mk.py). Lean checks it.
import Derived.Test.YtpcckoljocpchaaQFnExactFixedx0
import Derived.Test.YtpcckoljocpchaaQFnExactFixedx5
namespace Go.Proofs.Ytpcckoljocpchaa.QFnExactFixed
open Go.RowKit Go.Proofs.YtpcckoljocpchaaW.PrintWords Go.Proofs.YtpcckoljocpchaaW.PrintLast Go.Proofs.YtpcckoljocpchaaW.PrintMore
attribute [local go_sem] max2_int min2_int max_two min_two max_three min_three max_four min_four   -- for this text's walks alone
set_option linter.unusedVariables false
set_option linter.unusedSimpArgs false

/-! ### impl_builder_and: function 77 -/
def impl_builder_and.put (s : BS) (a b : Int) : Option (BS × Int) :=
 if okA ⟨a, b⟩ then
  match s.seen ⟨a, b⟩ with
  | some n => some (s, n)
  | none => if 600 ≤ (s.gates.length : Int) then some ({ s with full := true }, 0) else some ({ s with gates := s.gates ++ [⟨a, b⟩], seen := fun y => if y = ⟨a, b⟩ then some (wrap64 (2 * (wrap64 (s.inputs + ((s.gates.length : Int) + 1))))) else s.seen y }, wrap64 (2 * (wrap64 (s.inputs + ((s.gates.length : Int) + 1)))))
 else none
def impl_builder_and.f (s : BS) (x y : Int) : Option (BS × Int) :=
 if (if y < x then y else x) = 0 then some (s, 0) else if Go.bits .xor .i64 (if y < x then y else x) 1 = (if x < y then y else x) then some (s, 0) else if (if y < x then y else x) = 1 then some (s, if x < y then y else x) else if (if y < x then y else x) = (if x < y then y else x) then some (s, if x < y then y else x) else impl_builder_and.put s (if y < x then y else x) (if x < y then y else x)
set_option maxHeartbeats 4000000 in
set_option maxRecDepth 100000 in
theorem impl_builder_and.calls (s s' : BS) (x y r : Int) (ok : Nat → Prop) (g : Nat) (w0 w : World) (hB : Below w0.heap.size w0 w) (hI : IsB w w0.heap.size ok g s) (hf : ∀ k, w.heap.size ≤ k → ok k) (h : impl_builder_and.f s x y = some (s', r)) :
  Calls Try.prog 77 #[.pointer (some ⟨g, 0, none⟩), .int .i64 x, .int .i64 y] w fun e w' => e = .returned (.int .i64 r) ∧ IsB w' w0.heap.size ok g s' ∧ Below w0.heap.size w0 w' ∧ Kept w w' ok := by
 have hu28 := Try.underlying28
 have hu92 := Try.underlying92
 have hu117 := Try.underlying117
 have HI := Aside0.mk hI
 have HB := Aside0.mk hB
 have HF := Aside0.mk hf
 unfold impl_builder_and.f at h
 clear hI hB hf
 obtain ⟨a, hmn⟩ : ∃ a, (if y < x then y else x) = a := ⟨_, rfl⟩
 obtain ⟨b, hmx⟩ : ∃ b, (if x < y then y else x) = b := ⟨_, rfl⟩
 rw [hmn, hmx] at h
 by_cases c1 : a = 0
 ·rw [if_pos c1] at h
  obtain ⟨rfl, rfl⟩ := Prod.mk.inj (Option.some.inj h)
  have c1b : (a == 0) = true := beq_iff_eq.mpr c1
  clear h c1
  go_enter Try.func77, Try.ntmps77
  go_wp2
  go_ret
  exact ⟨rfl, HI.out, HB.out, Kept.refl _ _⟩
 rw [if_neg c1] at h
 have c1b : (a == 0) = false := beq_eq_false_iff_ne.mpr c1
 clear c1
 by_cases c2 : Go.bits .xor .i64 a 1 = b
 ·rw [if_pos c2] at h
  obtain ⟨rfl, rfl⟩ := Prod.mk.inj (Option.some.inj h)
  have c2b : (Go.bits .xor .i64 a 1 == b) = true := beq_iff_eq.mpr c2
  clear h c2
  go_enter Try.func77, Try.ntmps77
  go_wp2
  go_ret
  exact ⟨rfl, HI.out, HB.out, Kept.refl _ _⟩
 rw [if_neg c2] at h
 have c2b : (Go.bits .xor .i64 a 1 == b) = false := beq_eq_false_iff_ne.mpr c2
 clear c2
 by_cases c3 : a = 1
 ·rw [if_pos c3] at h
  obtain ⟨rfl, rfl⟩ := Prod.mk.inj (Option.some.inj h)
  have c3b : (a == 1) = true := beq_iff_eq.mpr c3
  clear h c3
  go_enter Try.func77, Try.ntmps77
  go_wp2
  go_ret
  exact ⟨rfl, HI.out, HB.out, Kept.refl _ _⟩
 rw [if_neg c3] at h
 have c3b : (a == 1) = false := beq_eq_false_iff_ne.mpr c3
 clear c3
 by_cases c4 : a = b
 ·rw [if_pos c4] at h
  obtain ⟨rfl, rfl⟩ := Prod.mk.inj (Option.some.inj h)
  have c4b : (a == b) = true := beq_iff_eq.mpr c4
  clear h c4
  go_enter Try.func77, Try.ntmps77
  go_wp2
  go_ret
  exact ⟨rfl, HI.out, HB.out, Kept.refl _ _⟩
 rw [if_neg c4] at h
 have c4b : (a == b) = false := beq_eq_false_iff_ne.mpr c4
 clear c4
 unfold impl_builder_and.put at h
 by_cases c5 : okA ⟨a, b⟩
 ·rw [if_pos c5] at h
  have C2 := Aside0.mk c5
  have H := Aside0.mk h
  clear c5 h
  obtain ⟨u, b1, hg, hR, hM1, k1, k2, k3, k4⟩ := HI.out
  obtain ⟨A, c, rfl⟩ := Kd.R_slice hR
  have BG := Aside0.mk hg
  have HR := Aside0.mk hR
  have M1 := Aside0.mk hM1
  have KS := Aside0.mk (And.intro k1 (And.intro k2 (And.intro k3 k4)))
  clear hg hR hM1 k1 k2 k3 k4
  go_enter Try.func77, Try.ntmps77
  go_wp2_with ((with_reducible refine gate_dst (N := 7) rfl ?_); refine box_event ?hg (N := 7) ?hd (cs := #[.int .i64 0, .int .i64 0]) (t := 92) ?hr ?_; (case hd => rfl); (case hg => rfl); (case hr => first | (go_simp; done) | (go_simp; rfl)); intro gb hgb w3 hbox hb; have BX0 := Aside0.mk hbox; have HB3 := Aside0.mk hb; have hz0 : w3.cell? ⟨gb, 0, none⟩ = some (.int .i64 0) := (blk_cell BX0.out 0).trans rfl; have hz1 : w3.cell? ⟨gb, 1, none⟩ = some (.int .i64 0) := (blk_cell BX0.out 1).trans rfl; have hy0 := blk_frozen BX0.out 0; have hy1 := blk_frozen BX0.out 1; have HGB := Aside0.mk hgb; clear hgb hbox hb)
  have n0 : Aside0 (Below w.heap.size w ((w3.setCell ⟨gb, 0, none⟩ (.int .i64 a)).setCell ⟨gb, 1, none⟩ (.int .i64 b))) := ⟨below_set (below_set HB3.out (Nat.le_of_eq HGB.out.symm)) (Nat.le_of_eq HGB.out.symm)⟩
  have n1 : Aside0 (((w3.setCell ⟨gb, 0, none⟩ (.int .i64 a)).setCell ⟨gb, 1, none⟩ (.int .i64 b)).heap[gb]? = some (.cells #[.int .i64 a, .int .i64 b] 92 (0, 0))) := ⟨blk_put (blk_put BX0.out 0 _ rfl) 1 _ rfl⟩
  generalize ((w3.setCell ⟨gb, 0, none⟩ (.int .i64 a)).setCell ⟨gb, 1, none⟩ (.int .i64 b)) = w4 at n0 n1 ⊢
  clear hz0 hz1 hy0 hy1 BX0 HB3
  have HB4 := n0
  have BX := n1
  have BG4 := Aside0.mk (blk_below BG.out HB4.out)
  have M4 := Aside0.mk (M1.out.below HB4.out)
  clear n0 n1
  refine start_ (n := 11) (S := fun w' => w'.cell? ⟨g, 2, none⟩ = some (.map (some b1)) ∧ w'.cell? ⟨gb, 0, none⟩ = some (.int .i64 a) ∧ w'.cell? ⟨gb, 1, none⟩ = some (.int .i64 b) ∧ Mp.Is ekA okA (Value.int .i64) w' b1 s.seen) (ds := []) (Pt.bm 11 0) (by kernel_rfl) rfl rfl ⟨(blk_cell BG4.out 2).trans rfl, (blk_cell BX.out 0).trans rfl, (blk_cell BX.out 1).trans rfl, M4.out.drew⟩ (fun hHeld => ?_)
  refine Pt.pu 0 (some 39) (Pt.bm 11 1) (by kernel_rfl) ?_
  refine Pt.pu 1 (some 40) (Pt.bm 11 3) (by kernel_rfl) ?_
  refine Pt.pu 2 (some 41) (Pt.bm 11 7) (by kernel_rfl) ?_
  refine Pt.tk 3 (some 42) (Pt.bm 11 15) rfl rfl (by kernel_rfl) hHeld (Or.inl ⟨by rfl, by rintro w' ⟨s0, s1, s2, sM⟩; go_simp; with_reducible rfl⟩) ?_
  refine Pt.tk 4 (some 43) (Pt.bm 11 31) rfl rfl (by kernel_rfl) hHeld (Or.inl ⟨by rfl, by rintro w' ⟨s0, s1, s2, sM⟩; go_simp; with_reducible rfl⟩) ?_
  cases hs : s.seen ⟨a, b⟩ with
  | some n =>
   have H2 := H.out
   rw [hs] at H2
   obtain ⟨rfl, rfl⟩ := Prod.mk.inj (Option.some.inj H2)
   clear H H2
   refine Pt.tk 5 (some 44) (Pt.bm 11 63) rfl rfl (by kernel_rfl) hHeld (Or.inl ⟨by rfl, by rintro w' ⟨s0, s1, s2, sM⟩; exact Mp.run_some (.tmp 42) (.tmp 43) rfl rfl sM keyA Try.underlying115 zero_int ⟨a, b⟩ rfl C2.out hs⟩) ?_
   refine Pt.pu 6 (some 38) (Pt.bm 11 127) (by kernel_rfl) ?_
   refine Pt.pu 7 (some 45) (Pt.bm 11 255) (by kernel_rfl) ?_
   refine Pt.pu 8 (some 46) (Pt.bm 11 511) (by kernel_rfl) ?_
   refine Pt.pu 9 (some 8) (Pt.bm 11 1023) (by kernel_rfl) ?_
   refine Pt.pu 10 (some 9) (Pt.bm 11 2047) (by kernel_rfl) ?_
   refine done_ (by kernel_rfl) ?_
   go_wp2
   go_ret
   have HB5 := below_step HB4.out (below_drew (Below.refl _ _))
   exact ⟨rfl, HI.out.below HB5, below_then HB.out HB.out.size HB5, Kept.of_below HB5 _⟩
  | none =>
   have H2 := H.out
   rw [hs] at H2
   clear H
   refine Pt.tk 5 (some 44) (Pt.bm 11 63) rfl rfl (by kernel_rfl) hHeld (Or.inl ⟨by rfl, by rintro w' ⟨s0, s1, s2, sM⟩; exact Mp.run_none (.tmp 42) (.tmp 43) rfl rfl sM keyA Try.underlying115 zero_int ⟨a, b⟩ rfl C2.out hs⟩) ?_
   refine Pt.pu 6 (some 38) (Pt.bm 11 127) (by kernel_rfl) ?_
   refine Pt.pu 7 (some 45) (Pt.bm 11 255) (by kernel_rfl) ?_
   refine Pt.pu 8 (some 46) (Pt.bm 11 511) (by kernel_rfl) ?_
   refine Pt.pu 9 (some 8) (Pt.bm 11 1023) (by kernel_rfl) ?_
   refine Pt.pu 10 (some 9) (Pt.bm 11 2047) (by kernel_rfl) ?_
   refine done_ (by kernel_rfl) ?_
   clear hHeld
   have hd1 : Below w4.heap.size w4 w4.drew := below_drew (Below.refl _ _)
   have n0 := Aside0.mk (below_step HB4.out hd1)
   have n1 := Aside0.mk (blk_drew BX.out)
   generalize w4.drew = w5 at n0 n1 ⊢
   clear HB4 BX BG4 M4 hd1
   have HB5 := n0
   have BX5 := n1
   clear n0 n1
   have BG5 := Aside0.mk (blk_below BG.out HB5.out)
   have M5 := Aside0.mk (M1.out.below HB5.out)
   have hg1 : w5.cell? ⟨g, 1, none⟩ = some (.slice A s.gates.length c) := (blk_cell BG5.out 1).trans rfl
   have hg3 : w5.cell? ⟨g, 3, none⟩ = some (.bool s.full) := (blk_cell BG5.out 3).trans rfl
   have hf3 := blk_frozen BG5.out 3
   by_cases c6 : 600 ≤ (s.gates.length : Int)
   ·rw [if_pos c6] at H2
    obtain ⟨rfl, rfl⟩ := Prod.mk.inj (Option.some.inj H2)
    have c6b : decide (600 ≤ (s.gates.length : Int)) = true := decide_eq_true c6
    clear H2 c6
    go_wp2
    go_ret
    refine ⟨rfl, ?_, ?_, ?_⟩
    ·obtain ⟨k1, k2, k3, k4⟩ := KS.out
     exact ⟨_, b1, blk_put BG5.out 3 _ rfl, Kd.R_set (Kd.R_below HR.out HB5.out) BG5.out (by decide) 3 _, M5.out.far (p := ⟨g, 3, none⟩) (M5.out.ne_blk BG5.out) _, k1, k2, k3, k4⟩
    ·exact (below_then HB.out HB.out.size HB5.out).setCell KS.out.2.2.1 _
    ·exact (Kept.of_below HB5.out ok).setCell (.inl KS.out.1) _
   ·rw [if_neg c6] at H2
    have c6b : decide (600 ≤ (s.gates.length : Int)) = false := decide_eq_false c6
    obtain ⟨rfl, rfl⟩ := Prod.mk.inj (Option.some.inj H2)
    have C3 := Aside0.mk c6
    clear H2 c6
    go_wp2
    clear hg1 hg3 hf3 c6b
    have HNE := Aside0.mk (show some gb ≠ (Value.slice A s.gates.length c).ownBlock from fun e => by have := Kd.R_lt HR.out gb e.symm; have := HGB.out; omega)
    have HGG := Aside0.mk (show gb ≠ g from fun e => by have := blk_lt BG.out; have := HGB.out; omega)
    refine start_ (n := 13) (S := fun w' => w'.cell? ⟨g, 1, none⟩ = some (.slice A s.gates.length c) ∧ w'.cell? ⟨gb, 0, none⟩ = some (.int .i64 a) ∧ w'.cell? ⟨gb, 1, none⟩ = some (.int .i64 b)) (ds := [12]) (Pt.bm 13 0) (by kernel_rfl) rfl rfl ⟨(blk_cell BG5.out 1).trans rfl, (blk_cell BX5.out 0).trans rfl, (blk_cell BX5.out 1).trans rfl⟩ (fun hHeld => ?_)
    have hd1 : Below w5.heap.size w5 w5.drew := below_drew (Below.refl _ _)
    have n0 := Aside0.mk (below_step HB5.out hd1)
    have n1 := Aside0.mk (blk_drew BX5.out)
    generalize w5.drew = w6 at n0 n1 hHeld ⊢
    clear HB5 BX5 BG5 M5 hd1
    have HB6 := n0
    have BX6 := n1
    clear n0 n1
    have BG6 := Aside0.mk (blk_below BG.out HB6.out)
    have M6 := Aside0.mk (M1.out.below HB6.out)
    have HR6 := Aside0.mk (Kd.R_below HR.out HB6.out)
    refine Pt.pu 0 (some 59) (Pt.bm 13 1) (by kernel_rfl) ?_
    refine Pt.pu 1 (some 60) (Pt.bm 13 3) (by kernel_rfl) ?_
    refine Pt.pu 2 (some 61) (Pt.bm 13 7) (by kernel_rfl) ?_
    refine Pt.pu 3 (some 62) (Pt.bm 13 15) (by kernel_rfl) ?_
    refine Pt.pu 4 (some 63) (Pt.bm 13 31) (by kernel_rfl) ?_
    refine Pt.tk 5 (some 64) (Pt.bm 13 63) rfl rfl (by kernel_rfl) hHeld (Or.inl ⟨by rfl, by rintro w' ⟨s0, s1, s2⟩; go_simp; with_reducible rfl⟩) ?_
    refine Pt.tk 6 (some 65) (Pt.bm 13 127) rfl rfl (by kernel_rfl) hHeld (Or.inl ⟨by rfl, by rintro w' ⟨s0, s1, s2⟩; go_simp; with_reducible rfl⟩) ?_
    refine one_ (i := 7) (N := some 66) (Pt.bm 13 255) rfl rfl (by kernel_rfl) (by decide) (fun K hK => ?_)
    refine value_ (w1 := ?_) (v := ?_) (by rfl) rfl ?_ ?_
    rotate_left 2
    ·go_simp
     constructor
     ·rfl
     ·rfl
    refine hK.out _ _ ⟨(blk_cell (blk_alloc BG6.out _) 1).trans rfl, (blk_cell (blk_alloc BX6.out _) 0).trans rfl, (blk_cell (blk_alloc BX6.out _) 1).trans rfl⟩ (fun hHeld => ?_)
    clear hK K
    refine norm_ (a' := ?_) ?_ ?_
    rotate_left
    ·show Act.put _ (some 66) _ = _
     simp only [Act.put, List.setIfInBounds_toArray, List.set_cons_zero, List.set_cons_succ, i64_w, i32_w]
     rfl
    refine one_ (i := 8) (N := some 67) (Pt.bm 13 511) rfl rfl (by kernel_rfl) (by decide) (fun K hK => ?_)
    refine Kd.R_append_step k92 (w0 := w0) w0.heap.size (by rfl) (.tmp 64) (.tmp 66) 26 92 (.agg #[.int .i64 0, .int .i64 0]) 16 rfl Try.underlying26 info92 rfl (by decide) (by omega) (.slice A s.gates.length c) s.gates (⟨a, b⟩ : S92) [.int .i64 a, .int .i64 b] ok (fun _ => False) rfl rfl (k92_mkM _ _ _ _) (fun _ hk => hk.elim) (fun k hk => HF.out k (Nat.le_trans HB6.out.size hk)) HR6.out (below_then HB.out HB.out.size HB6.out) (Nat.le_trans HB.out.size HB6.out.size) (by have := C3.out; omega) ?_
    intro v1 w7 ho7 hb7 hg7 _
    obtain ⟨A1, cc1, rfl⟩ := Kd.R_slice ho7
    obtain ⟨y', hy⟩ : ∃ y' : List S92, y' = s.gates ++ [⟨a, b⟩] := ⟨_, rfl⟩
    have hyl : y'.length = s.gates.length + 1 := by rw [hy]; simp
    rw [← hy] at ho7 ⊢
    have BG7 := Aside0.mk (blk_grown BG6.out hg7 (Kd.R_ne HR6.out BG6.out (by decide)))
    have BX7 := Aside0.mk (blk_grown BX6.out hg7 HNE.out)
    have M7 := Aside0.mk (M6.out.grown hg7 (M6.out.ne_row HR6.out))
    have HO7 := Aside0.mk ho7
    have HB7 := Aside0.mk hb7
    have HK7 := Aside0.mk (Kept.of_grown hg7 (Kept.of_below HB6.out ok) (fun k hk => .inl (HR.out.1 k hk)))
    have HY := Aside0.mk hy
    have HYL := Aside0.mk hyl
    clear ho7 hb7 hg7 BG6 BX6 M6 hy hyl HR6 HB6
    refine hK.out _ _ ⟨(blk_cell BG7.out 1).trans rfl, (blk_cell BX7.out 0).trans rfl, (blk_cell BX7.out 1).trans rfl⟩ (fun hHeld => ?_)
    clear hK K
    refine norm_ (a' := ?_) ?_ ?_
    rotate_left
    ·show Act.put _ (some 67) _ = _
     simp only [Act.put, List.setIfInBounds_toArray, List.set_cons_zero, List.set_cons_succ, i64_w, i32_w]
     rfl
    refine Pt.pu 9 (some 68) (Pt.bm 13 1023) (by kernel_rfl) ?_
    refine Pt.pu 10 (some 69) (Pt.bm 13 2047) (by kernel_rfl) ?_
    refine Pt.pu 11 (some 70) (Pt.bm 13 4095) (by kernel_rfl) ?_
    refine last_ (i := 12) (N := none) (Pt.bm 13 8191) rfl rfl (by kernel_rfl) (by decide) (fun K hK => ?_)
    have hs1 : w7.cell? ⟨g, 1, none⟩ = some (.slice A s.gates.length c) := (blk_cell BG7.out 1).trans rfl
    have hfs1 := blk_frozen BG7.out 1
    refine skip_ (w1 := ?_) (by rfl) rfl ?_ ?_
    rotate_left
    ·go_simp
     rfl
    refine hK.out _ _ ?_
    clear hK K hs1 hfs1
    refine done_ (by kernel_rfl) ?_
    have n0 : Aside0 ((w7.setCell ⟨g, 1, none⟩ (.slice A1 y'.length cc1)).heap[g]? = some (.cells #[.int .i64 s.inputs, .slice A1 y'.length cc1, .map (some b1), .bool s.full] 117 (0, 0))) := ⟨blk_put BG7.out 1 _ rfl⟩
    have n1 : Aside0 ((w7.setCell ⟨g, 1, none⟩ (.slice A1 y'.length cc1)).heap[gb]? = some (.cells #[.int .i64 a, .int .i64 b] 92 (0, 0))) := ⟨blk_far BX7.out HGG.out _⟩
    have n2 := Aside0.mk (M7.out.far (p := ⟨g, 1, none⟩) (M7.out.ne_blk BG7.out) (.slice A1 y'.length cc1))
    have n4 := Aside0.mk (Kd.R_set HO7.out BG7.out (by decide) 1 (.slice A1 y'.length cc1))
    have n5 := Aside0.mk (HB7.out.setCell (p := ⟨g, 1, none⟩) KS.out.2.2.1 (.slice A1 y'.length cc1))
    have n6 := Aside0.mk (HK7.out.setCell (p := ⟨g, 1, none⟩) (.inl KS.out.1) (.slice A1 y'.length cc1))
    generalize (w7.setCell ⟨g, 1, none⟩ (.slice A1 y'.length cc1)) = w8 at n0 n1 n2 n4 n5 n6 ⊢
    clear BG7 BX7 M7 HO7 HB7 HK7
    try go_wp2
    have hlw : wrap64 (2 * (wrap64 (s.inputs + (y'.length : Int)))) = wrap64 (2 * (wrap64 (s.inputs + ((s.gates.length : Int) + 1)))) := by rw [HYL.out]; rfl
    refine start_ (n := 14) (S := fun w' => w'.cell? ⟨g, 0, none⟩ = some (.int .i64 s.inputs) ∧ w'.cell? ⟨g, 1, none⟩ = some (.slice A1 y'.length cc1)) (ds := []) (Pt.bm 14 0) (by kernel_rfl) rfl rfl ⟨(blk_cell (blk_drew n0.out) 0).trans rfl, (blk_cell (blk_drew n0.out) 1).trans rfl⟩ (fun hHeld => ?_)
    have BG8 := Aside0.mk (blk_drew n0.out)
    have BX8 := Aside0.mk (blk_drew n1.out)
    have M8 := Aside0.mk n2.out.drew
    have HO8 := Aside0.mk (Kd.R_drew n4.out)
    have HB8 := Aside0.mk (below_drew n5.out)
    have HK8 := Aside0.mk n6.out.drew
    clear n0 n1 n2 n4 n5 n6
    generalize w8.drew = w9 at BG8 BX8 M8 HO8 HB8 HK8 hHeld ⊢
    refine Pt.pu 0 (some 71) (Pt.bm 14 1) (by kernel_rfl) ?_
    refine Pt.pu 1 (some 72) (Pt.bm 14 3) (by kernel_rfl) ?_
    refine Pt.pu 2 (some 73) (Pt.bm 14 7) (by kernel_rfl) ?_
    refine Pt.pu 3 (some 74) (Pt.bm 14 15) (by kernel_rfl) ?_
    refine Pt.tk 4 (some 75) (Pt.bm 14 31) rfl rfl (by kernel_rfl) hHeld (Or.inl ⟨by rfl, by rintro w' ⟨s0, s1⟩; go_simp; with_reducible rfl⟩) ?_
    refine Pt.pu 5 (some 76) (Pt.bm 14 63) (by kernel_rfl) ?_
    refine Pt.pu 6 (some 77) (Pt.bm 14 127) (by kernel_rfl) ?_
    refine Pt.pu 7 (some 78) (Pt.bm 14 255) (by kernel_rfl) ?_
    refine Pt.pu 8 (some 79) (Pt.bm 14 511) (by kernel_rfl) ?_
    refine Pt.tk 9 (some 80) (Pt.bm 14 1023) rfl rfl (by kernel_rfl) hHeld (Or.inl ⟨by rfl, by rintro w' ⟨s0, s1⟩; go_simp; with_reducible rfl⟩) ?_
    refine Pt.pu 10 (some 81) (Pt.bm 14 2047) (by kernel_rfl) ?_
    refine Pt.pu 11 (some 82) (Pt.bm 14 4095) (by kernel_rfl) ?_
    refine Pt.pu 12 (some 83) (Pt.bm 14 8191) (by kernel_rfl) ?_
    refine Pt.pu 13 (some 10) (Pt.bm 14 16383) (by kernel_rfl) ?_
    refine done_ (by kernel_rfl) ?_
    clear hHeld
    try go_wp2
    refine start_ (n := 7) (S := fun w' => w'.cell? ⟨g, 2, none⟩ = some (.map (some b1)) ∧ w'.cell? ⟨gb, 0, none⟩ = some (.int .i64 a) ∧ w'.cell? ⟨gb, 1, none⟩ = some (.int .i64 b)) (ds := [6]) (Pt.bm 7 0) (by kernel_rfl) rfl rfl ⟨(blk_cell (blk_drew BG8.out) 2).trans rfl, (blk_cell (blk_drew BX8.out) 0).trans rfl, (blk_cell (blk_drew BX8.out) 1).trans rfl⟩ (fun hHeld => ?_)
    have n0 := Aside0.mk (blk_drew BG8.out)
    have n1 := Aside0.mk (blk_drew BX8.out)
    have n2 := Aside0.mk M8.out.drew
    have n4 := Aside0.mk (Kd.R_drew HO8.out)
    have n5 := Aside0.mk (below_drew HB8.out)
    have n6 := Aside0.mk HK8.out.drew
    clear BG8 BX8 M8 HO8 HB8 HK8
    generalize w9.drew = w10 at n0 n1 n2 n4 n5 n6 hHeld ⊢
    refine Pt.pu 0 (some 84) (Pt.bm 7 1) (by kernel_rfl) ?_
    refine Pt.pu 1 (some 85) (Pt.bm 7 3) (by kernel_rfl) ?_
    refine Pt.pu 2 (some 86) (Pt.bm 7 7) (by kernel_rfl) ?_
    refine Pt.tk 3 (some 87) (Pt.bm 7 15) rfl rfl (by kernel_rfl) hHeld (Or.inl ⟨by rfl, by rintro w' ⟨s0, s1, s2⟩; go_simp; with_reducible rfl⟩) ?_
    refine Pt.tk 4 (some 88) (Pt.bm 7 31) rfl rfl (by kernel_rfl) hHeld (Or.inl ⟨by rfl, by rintro w' ⟨s0, s1, s2⟩; go_simp; with_reducible rfl⟩) ?_
    refine Pt.pu 5 (some 89) (Pt.bm 7 63) (by kernel_rfl) ?_
    refine last_ (i := 6) (N := none) (Pt.bm 7 127) rfl rfl (by kernel_rfl) (by decide) (fun K hK => ?_)
    refine Mp.store_step (by rfl) rfl (.tmp 87) (.tmp 88) (.tmp 89) rfl rfl n2.out keyA Try.underlying115 ⟨a, b⟩ rfl C2.out (wrap64 (2 * (wrap64 (s.inputs + ((s.gates.length : Int) + 1))))) ?hv ?_
    case hv =>
     show Value.int .i64 _ = _
     first | rw [hlw] | simp only [i64_w, hlw]
    intro w11 hM11 hg11 hz11
    refine hK.out _ _ ?_
    clear hK K hHeld
    refine done_ (by kernel_rfl) ?_
    have BG11 := Aside0.mk (blk_grown n0.out hg11 (by simpa using (n2.out.ne_blk n0.out).symm))
    have M11 := Aside0.mk hM11
    have HO11 := Aside0.mk (Kd.R_map n4.out n2.out hg11)
    have HB11 := Aside0.mk (pw_below_grown n5.out (some b1) (Nat.le_trans (by exact HB.out.size) (by exact n6.out.1)) hg11 (fun k hk => by cases hk; exact KS.out.2.2.2))
    have HK11 := Aside0.mk (Kept.of_grown hg11 n6.out (fun k hk => .inl (by cases hk; exact KS.out.2.1)))
    clear hM11 hg11 hz11 n0 n1 n2 n4 n5 n6
    try go_wp2
    go_ret
    obtain ⟨k1, k2, k3, k4⟩ := KS.out
    rw [← HY.out]
    exact ⟨by first | (rw [hlw]; done) | (rw [hlw]; rfl) | (simp only [i64_w, hlw]; rfl) | rfl, ⟨_, b1, BG11.out, HO11.out, M11.out, k1, k2, k3, k4⟩, HB11.out, HK11.out⟩
 ·rw [if_neg c5] at h
  cases h

/-! ### impl_Fixed: function 25 -/
def impl_Fixed.to0 (n : Nat) : List Int := (List.range n).map (fun i => wrap64 (2 * ((i : Nat) : Int)))
def impl_Fixed.at_ (l : List Int) (e : Int) : Int := Go.bits .xor .i64 (rd l (wrap64 (Int.tdiv e 2))) (Go.bits .and .i64 e 1)
def impl_Fixed.in_ (l : List Int) (e : Int) : Prop := 0 ≤ wrap64 (Int.tdiv e 2) ∧ wrap64 (Int.tdiv e 2) < (l.length : Int)
instance (l : List Int) (e : Int) : Decidable (impl_Fixed.in_ l e) := inferInstanceAs (Decidable (_ ∧ _))
def impl_Fixed.lp : List S92 → BS → List Int → Option (BS × List Int)
 | [], s, l => some (s, l)
 | x :: xs, s, l => if impl_Fixed.in_ l x.f0 ∧ impl_Fixed.in_ l x.f1 ∧ l.length < 1000000000 then (impl_builder_and.f s (impl_Fixed.at_ l x.f0) (impl_Fixed.at_ l x.f1)).bind fun t => impl_Fixed.lp xs t.1 (l ++ [t.2]) else none
theorem impl_Fixed.to0_succ (n : Nat) : impl_Fixed.to0 (n + 1) = impl_Fixed.to0 n ++ [wrap64 (2 * (n : Int))] := by
 unfold impl_Fixed.to0
 rw [List.range_succ, List.map_append]
 rfl
theorem impl_Fixed.to0_len (n : Nat) : (impl_Fixed.to0 n).length = n := by simp [impl_Fixed.to0]
def impl_Fixed.f (k : Nat) (a0_0 : Int) (l0_1 : List S92) (edge : Int) (input : Int) (value : Int) : Option (Int × List S92 × Int) := (impl_CircuitValid.f k a0_0 l0_1).bind fun t0 => if t0 = false then some (0, [], -1) else (impl_Circuit_isEdge.f a0_0 l0_1 edge).bind fun t1 => if t1 = false then some (0, [], -1) else (impl_in.f input 0 (wrap64 (a0_0 - 1))).bind fun t2 => if t2 = false then some (0, [], -1) else (impl_in.f value 0 1).bind fun t3 => if t3 = false then some (0, [], -1) else if (0 ≤ a0_0 ∧ a0_0 ≤ 1000000) ∧ (0 ≤ wrap64 (input + 1) ∧ wrap64 (input + 1) < a0_0 + 1) then (impl_building.f a0_0 []).bind fun s => (impl_Fixed.lp l0_1 s ((impl_Fixed.to0 (a0_0.toNat + 1)).set (wrap64 (input + 1)).toNat value)).bind fun p => if impl_Fixed.in_ p.2 edge then impl_builder_done.f p.1 (impl_Fixed.at_ p.2 edge) else none else none
theorem impl_Fixed.mono : ∀ a0_0 l0_1 edge input value k, LeO (impl_Fixed.f k a0_0 l0_1 edge input value) (impl_Fixed.f (k + 1) a0_0 l0_1 edge input value) := fun a0_0 l0_1 edge input value k => LeO.bind (impl_CircuitValid.mono _ _ k) (fun _ => LeO.ite (LeO.refl _) (LeO.bind (LeO.refl _) (fun _ => LeO.ite (LeO.refl _) (LeO.bind (LeO.refl _) (fun _ => LeO.ite (LeO.refl _) (LeO.bind (LeO.refl _) (fun _ => LeO.ite (LeO.refl _) (LeO.refl _))))))))
set_option maxHeartbeats 8000000 in
set_option maxRecDepth 100000 in
theorem impl_Fixed.calls (k : Nat) (a0_0 : Int) (A0_1 : Option Addr) (c0_1 : Nat) (l0_1 : List S92) (edge : Int) (input : Int) (value : Int) (r1 : Int) (r2 : List S92) (r3 : Int) (w : World) (hr : Kd.C k92 w A0_1 l0_1.length l0_1) (hc : l0_1.length ≤ c0_1) (h : impl_Fixed.f k a0_0 l0_1 edge input value = some (r1, r2, r3)) :
  Calls Try.prog 25 #[.agg #[.int .i64 a0_0, .slice A0_1 l0_1.length c0_1], .int .i64 edge, .int .i64 input, .int .i64 value] w fun e w' => ∃ v1_ : Value, e = .returned (.tuple #[.agg #[.int .i64 r1, v1_], .int .i64 r3]) ∧ Kd.R k92 92 w' w.heap.size (fun _ => True) v1_ r2 ∧ Below w.heap.size w w' := by
 have hu28 := Try.underlying28
 have HR := Aside0.mk hr
 have HC := Aside0.mk hc
 unfold impl_Fixed.f at h
 clear hr hc
 obtain ⟨t0, h0, h_⟩ := Option.bind_eq_some_iff.mp h
 clear h
 have h := h_
 have T0 := Aside0.mk h0
 clear h0 h_
 cases t0 with
 | false =>
  rw [if_pos rfl] at h
  simp only [Option.some.injEq, Prod.mk.injEq] at h
  obtain ⟨rfl, rfl, rfl⟩ := h
  go_enter Try.func25, Try.ntmps25
  go_wp2_with (first | ((with_reducible refine gate_dst (N := 4) rfl ?_); refine box_event ?hg (N := 4) ?hd (cs := #[.int .i64 a0_0, .slice A0_1 l0_1.length c0_1]) (t := 28) ?hr ?_; (case hd => rfl); (case hg => rfl); (case hr => first | (go_simp; done) | (go_simp; rfl)); intro g0 hg0 w1 hbox hb; have BD1 := Aside0.mk hbox; have HB1 := Aside0.mk hb; clear hg0 hbox hb) | ((with_reducible refine gate_dst (N := 8) rfl ?_); refine box_event ?hg (N := 8) ?hd (cs := #[.int .i64 0, .slice none 0 0]) (t := 28) ?hr ?_; (case hd => rfl); (case hg => rfl); (case hr => first | (go_simp; done) | (go_simp; rfl)); intro gr hgr w2 hbox hb; have GR := Aside0.mk (show w.heap.size ≤ gr by rw [hgr]; exact HB1.out.size); have BR2 := Aside0.mk hbox; have BD2 := Aside0.mk (blk_below BD1.out hb); have HB2 := Aside0.mk (below_step HB1.out hb); have d20 : w2.cell? ⟨g0, 0, none⟩ = some (.int .i64 a0_0) := (blk_cell BD2.out 0).trans rfl; have d21 : w2.cell? ⟨g0, 1, none⟩ = some (.slice A0_1 l0_1.length c0_1) := (blk_cell BD2.out 1).trans rfl; clear hgr hbox hb) | (go_at_call 23; (with_reducible refine (impl_CircuitValid.calls k a0_0 A0_1 c0_1 l0_1 false _ (Kd.C_below HR.out HB2.out) HC.out T0.out).mono ?_); rintro e w3 ⟨rfl, hb⟩; have HB3 := Aside0.mk (below_step HB2.out hb); have BD3 := Aside0.mk (blk_below BD2.out hb); have BR3 := Aside0.mk (blk_below BR2.out hb); have d30 : w3.cell? ⟨g0, 0, none⟩ = some (.int .i64 a0_0) := (blk_cell BD3.out 0).trans rfl; have d31 : w3.cell? ⟨g0, 1, none⟩ = some (.slice A0_1 l0_1.length c0_1) := (blk_cell BD3.out 1).trans rfl; have r30 : w3.cell? ⟨gr, 0, none⟩ = some (.int .i64 0) := (blk_cell BR3.out 0).trans rfl; have r31 : w3.cell? ⟨gr, 1, none⟩ = some (.slice none 0 0) := (blk_cell BR3.out 1).trans rfl; have q30 := blk_frozen BR3.out 0; have q31 := blk_frozen BR3.out 1; clear hb))
  refine bodyPost_ret (results_ct rfl _ _ gr 28 #[.int .i64 0, .slice none 0 0] (0, 0) _ rfl (blk_put (blk_put BR3.out 0 _ rfl) 1 _ rfl) Try.underlying28 rfl (by kernel_rfl)) rfl ?_
  exact ⟨_, rfl, Kd.R_nil _ _ _ _ _, below_set (below_set HB3.out GR.out) GR.out⟩
 | true =>
  rw [if_neg (by decide)] at h
  obtain ⟨t1, h1, h_⟩ := Option.bind_eq_some_iff.mp h
  clear h
  have h := h_
  have T1 := Aside0.mk h1
  clear h1 h_
  cases t1 with
  | false =>
   rw [if_pos rfl] at h
   simp only [Option.some.injEq, Prod.mk.injEq] at h
   obtain ⟨rfl, rfl, rfl⟩ := h
   go_enter Try.func25, Try.ntmps25
   go_wp2_with (first | ((with_reducible refine gate_dst (N := 4) rfl ?_); refine box_event ?hg (N := 4) ?hd (cs := #[.int .i64 a0_0, .slice A0_1 l0_1.length c0_1]) (t := 28) ?hr ?_; (case hd => rfl); (case hg => rfl); (case hr => first | (go_simp; done) | (go_simp; rfl)); intro g0 hg0 w1 hbox hb; have BD1 := Aside0.mk hbox; have HB1 := Aside0.mk hb; clear hg0 hbox hb) | ((with_reducible refine gate_dst (N := 8) rfl ?_); refine box_event ?hg (N := 8) ?hd (cs := #[.int .i64 0, .slice none 0 0]) (t := 28) ?hr ?_; (case hd => rfl); (case hg => rfl); (case hr => first | (go_simp; done) | (go_simp; rfl)); intro gr hgr w2 hbox hb; have GR := Aside0.mk (show w.heap.size ≤ gr by rw [hgr]; exact HB1.out.size); have BR2 := Aside0.mk hbox; have BD2 := Aside0.mk (blk_below BD1.out hb); have HB2 := Aside0.mk (below_step HB1.out hb); have d20 : w2.cell? ⟨g0, 0, none⟩ = some (.int .i64 a0_0) := (blk_cell BD2.out 0).trans rfl; have d21 : w2.cell? ⟨g0, 1, none⟩ = some (.slice A0_1 l0_1.length c0_1) := (blk_cell BD2.out 1).trans rfl; clear hgr hbox hb) | (go_at_call 23; (with_reducible refine (impl_CircuitValid.calls k a0_0 A0_1 c0_1 l0_1 true _ (Kd.C_below HR.out HB2.out) HC.out T0.out).mono ?_); rintro e w3 ⟨rfl, hb⟩; have HB3 := Aside0.mk (below_step HB2.out hb); have BD3 := Aside0.mk (blk_below BD2.out hb); have BR3 := Aside0.mk (blk_below BR2.out hb); have d30 : w3.cell? ⟨g0, 0, none⟩ = some (.int .i64 a0_0) := (blk_cell BD3.out 0).trans rfl; have d31 : w3.cell? ⟨g0, 1, none⟩ = some (.slice A0_1 l0_1.length c0_1) := (blk_cell BD3.out 1).trans rfl; have r30 : w3.cell? ⟨gr, 0, none⟩ = some (.int .i64 0) := (blk_cell BR3.out 0).trans rfl; have r31 : w3.cell? ⟨gr, 1, none⟩ = some (.slice none 0 0) := (blk_cell BR3.out 1).trans rfl; have q30 := blk_frozen BR3.out 0; have q31 := blk_frozen BR3.out 1; clear hb) | (go_at_call 59; (with_reducible refine (impl_Circuit_isEdge.calls a0_0 A0_1 c0_1 l0_1 edge false _ (Kd.C_below HR.out HB3.out) HC.out T1.out).mono ?_); rintro e w4 ⟨rfl, hb⟩; have HB4 := Aside0.mk (below_step HB3.out hb); have BD4 := Aside0.mk (blk_below BD3.out hb); have BR4 := Aside0.mk (blk_below BR3.out hb); have d40 : w4.cell? ⟨g0, 0, none⟩ = some (.int .i64 a0_0) := (blk_cell BD4.out 0).trans rfl; have d41 : w4.cell? ⟨g0, 1, none⟩ = some (.slice A0_1 l0_1.length c0_1) := (blk_cell BD4.out 1).trans rfl; have r40 : w4.cell? ⟨gr, 0, none⟩ = some (.int .i64 0) := (blk_cell BR4.out 0).trans rfl; have r41 : w4.cell? ⟨gr, 1, none⟩ = some (.slice none 0 0) := (blk_cell BR4.out 1).trans rfl; have q40 := blk_frozen BR4.out 0; have q41 := blk_frozen BR4.out 1; clear hb))
   refine bodyPost_ret (results_ct rfl _ _ gr 28 #[.int .i64 0, .slice none 0 0] (0, 0) _ rfl (blk_put (blk_put BR4.out 0 _ rfl) 1 _ rfl) Try.underlying28 rfl (by kernel_rfl)) rfl ?_
   exact ⟨_, rfl, Kd.R_nil _ _ _ _ _, below_set (below_set HB4.out GR.out) GR.out⟩
  | true =>
   rw [if_neg (by decide)] at h
   obtain ⟨t2, h2, h_⟩ := Option.bind_eq_some_iff.mp h
   clear h
   have h := h_
   have T2 := Aside0.mk h2
   clear h2 h_
   cases t2 with
   | false =>
    rw [if_pos rfl] at h
    simp only [Option.some.injEq, Prod.mk.injEq] at h
    obtain ⟨rfl, rfl, rfl⟩ := h
    go_enter Try.func25, Try.ntmps25
    go_wp2_with (first | ((with_reducible refine gate_dst (N := 4) rfl ?_); refine box_event ?hg (N := 4) ?hd (cs := #[.int .i64 a0_0, .slice A0_1 l0_1.length c0_1]) (t := 28) ?hr ?_; (case hd => rfl); (case hg => rfl); (case hr => first | (go_simp; done) | (go_simp; rfl)); intro g0 hg0 w1 hbox hb; have BD1 := Aside0.mk hbox; have HB1 := Aside0.mk hb; clear hg0 hbox hb) | ((with_reducible refine gate_dst (N := 8) rfl ?_); refine box_event ?hg (N := 8) ?hd (cs := #[.int .i64 0, .slice none 0 0]) (t := 28) ?hr ?_; (case hd => rfl); (case hg => rfl); (case hr => first | (go_simp; done) | (go_simp; rfl)); intro gr hgr w2 hbox hb; have GR := Aside0.mk (show w.heap.size ≤ gr by rw [hgr]; exact HB1.out.size); have BR2 := Aside0.mk hbox; have BD2 := Aside0.mk (blk_below BD1.out hb); have HB2 := Aside0.mk (below_step HB1.out hb); have d20 : w2.cell? ⟨g0, 0, none⟩ = some (.int .i64 a0_0) := (blk_cell BD2.out 0).trans rfl; have d21 : w2.cell? ⟨g0, 1, none⟩ = some (.slice A0_1 l0_1.length c0_1) := (blk_cell BD2.out 1).trans rfl; clear hgr hbox hb) | (go_at_call 23; (with_reducible refine (impl_CircuitValid.calls k a0_0 A0_1 c0_1 l0_1 true _ (Kd.C_below HR.out HB2.out) HC.out T0.out).mono ?_); rintro e w3 ⟨rfl, hb⟩; have HB3 := Aside0.mk (below_step HB2.out hb); have BD3 := Aside0.mk (blk_below BD2.out hb); have BR3 := Aside0.mk (blk_below BR2.out hb); have d30 : w3.cell? ⟨g0, 0, none⟩ = some (.int .i64 a0_0) := (blk_cell BD3.out 0).trans rfl; have d31 : w3.cell? ⟨g0, 1, none⟩ = some (.slice A0_1 l0_1.length c0_1) := (blk_cell BD3.out 1).trans rfl; have r30 : w3.cell? ⟨gr, 0, none⟩ = some (.int .i64 0) := (blk_cell BR3.out 0).trans rfl; have r31 : w3.cell? ⟨gr, 1, none⟩ = some (.slice none 0 0) := (blk_cell BR3.out 1).trans rfl; have q30 := blk_frozen BR3.out 0; have q31 := blk_frozen BR3.out 1; clear hb) | (go_at_call 59; (with_reducible refine (impl_Circuit_isEdge.calls a0_0 A0_1 c0_1 l0_1 edge true _ (Kd.C_below HR.out HB3.out) HC.out T1.out).mono ?_); rintro e w4 ⟨rfl, hb⟩; have HB4 := Aside0.mk (below_step HB3.out hb); have BD4 := Aside0.mk (blk_below BD3.out hb); have BR4 := Aside0.mk (blk_below BR3.out hb); have d40 : w4.cell? ⟨g0, 0, none⟩ = some (.int .i64 a0_0) := (blk_cell BD4.out 0).trans rfl; have d41 : w4.cell? ⟨g0, 1, none⟩ = some (.slice A0_1 l0_1.length c0_1) := (blk_cell BD4.out 1).trans rfl; have r40 : w4.cell? ⟨gr, 0, none⟩ = some (.int .i64 0) := (blk_cell BR4.out 0).trans rfl; have r41 : w4.cell? ⟨gr, 1, none⟩ = some (.slice none 0 0) := (blk_cell BR4.out 1).trans rfl; have q40 := blk_frozen BR4.out 0; have q41 := blk_frozen BR4.out 1; clear hb) | (go_at_call 73; (with_reducible refine (impl_in.calls input 0 (wrap64 (a0_0 - 1)) false _ T2.out).mono ?_); rintro e w5 ⟨rfl, hb⟩; replace hb := hb.below; have HB5 := Aside0.mk (below_step HB4.out hb); have BD5 := Aside0.mk (blk_below BD4.out hb); have BR5 := Aside0.mk (blk_below BR4.out hb); have d50 : w5.cell? ⟨g0, 0, none⟩ = some (.int .i64 a0_0) := (blk_cell BD5.out 0).trans rfl; have d51 : w5.cell? ⟨g0, 1, none⟩ = some (.slice A0_1 l0_1.length c0_1) := (blk_cell BD5.out 1).trans rfl; have r50 : w5.cell? ⟨gr, 0, none⟩ = some (.int .i64 0) := (blk_cell BR5.out 0).trans rfl; have r51 : w5.cell? ⟨gr, 1, none⟩ = some (.slice none 0 0) := (blk_cell BR5.out 1).trans rfl; have q50 := blk_frozen BR5.out 0; have q51 := blk_frozen BR5.out 1; clear hb))
    refine bodyPost_ret (results_ct rfl _ _ gr 28 #[.int .i64 0, .slice none 0 0] (0, 0) _ rfl (blk_put (blk_put BR5.out 0 _ rfl) 1 _ rfl) Try.underlying28 rfl (by kernel_rfl)) rfl ?_
    exact ⟨_, rfl, Kd.R_nil _ _ _ _ _, below_set (below_set HB5.out GR.out) GR.out⟩
   | true =>
    rw [if_neg (by decide)] at h
    obtain ⟨t3, h3, h_⟩ := Option.bind_eq_some_iff.mp h
    clear h
    have h := h_
    have T3 := Aside0.mk h3
    clear h3 h_
    cases t3 with
    | false =>
     rw [if_pos rfl] at h
     simp only [Option.some.injEq, Prod.mk.injEq] at h
     obtain ⟨rfl, rfl, rfl⟩ := h
     go_enter Try.func25, Try.ntmps25
     go_wp2_with (first | ((with_reducible refine gate_dst (N := 4) rfl ?_); refine box_event ?hg (N := 4) ?hd (cs := #[.int .i64 a0_0, .slice A0_1 l0_1.length c0_1]) (t := 28) ?hr ?_; (case hd => rfl); (case hg => rfl); (case hr => first | (go_simp; done) | (go_simp; rfl)); intro g0 hg0 w1 hbox hb; have BD1 := Aside0.mk hbox; have HB1 := Aside0.mk hb; clear hg0 hbox hb) | ((with_reducible refine gate_dst (N := 8) rfl ?_); refine box_event ?hg (N := 8) ?hd (cs := #[.int .i64 0, .slice none 0 0]) (t := 28) ?hr ?_; (case hd => rfl); (case hg => rfl); (case hr => first | (go_simp; done) | (go_simp; rfl)); intro gr hgr w2 hbox hb; have GR := Aside0.mk (show w.heap.size ≤ gr by rw [hgr]; exact HB1.out.size); have BR2 := Aside0.mk hbox; have BD2 := Aside0.mk (blk_below BD1.out hb); have HB2 := Aside0.mk (below_step HB1.out hb); have d20 : w2.cell? ⟨g0, 0, none⟩ = some (.int .i64 a0_0) := (blk_cell BD2.out 0).trans rfl; have d21 : w2.cell? ⟨g0, 1, none⟩ = some (.slice A0_1 l0_1.length c0_1) := (blk_cell BD2.out 1).trans rfl; clear hgr hbox hb) | (go_at_call 23; (with_reducible refine (impl_CircuitValid.calls k a0_0 A0_1 c0_1 l0_1 true _ (Kd.C_below HR.out HB2.out) HC.out T0.out).mono ?_); rintro e w3 ⟨rfl, hb⟩; have HB3 := Aside0.mk (below_step HB2.out hb); have BD3 := Aside0.mk (blk_below BD2.out hb); have BR3 := Aside0.mk (blk_below BR2.out hb); have d30 : w3.cell? ⟨g0, 0, none⟩ = some (.int .i64 a0_0) := (blk_cell BD3.out 0).trans rfl; have d31 : w3.cell? ⟨g0, 1, none⟩ = some (.slice A0_1 l0_1.length c0_1) := (blk_cell BD3.out 1).trans rfl; have r30 : w3.cell? ⟨gr, 0, none⟩ = some (.int .i64 0) := (blk_cell BR3.out 0).trans rfl; have r31 : w3.cell? ⟨gr, 1, none⟩ = some (.slice none 0 0) := (blk_cell BR3.out 1).trans rfl; have q30 := blk_frozen BR3.out 0; have q31 := blk_frozen BR3.out 1; clear hb) | (go_at_call 59; (with_reducible refine (impl_Circuit_isEdge.calls a0_0 A0_1 c0_1 l0_1 edge true _ (Kd.C_below HR.out HB3.out) HC.out T1.out).mono ?_); rintro e w4 ⟨rfl, hb⟩; have HB4 := Aside0.mk (below_step HB3.out hb); have BD4 := Aside0.mk (blk_below BD3.out hb); have BR4 := Aside0.mk (blk_below BR3.out hb); have d40 : w4.cell? ⟨g0, 0, none⟩ = some (.int .i64 a0_0) := (blk_cell BD4.out 0).trans rfl; have d41 : w4.cell? ⟨g0, 1, none⟩ = some (.slice A0_1 l0_1.length c0_1) := (blk_cell BD4.out 1).trans rfl; have r40 : w4.cell? ⟨gr, 0, none⟩ = some (.int .i64 0) := (blk_cell BR4.out 0).trans rfl; have r41 : w4.cell? ⟨gr, 1, none⟩ = some (.slice none 0 0) := (blk_cell BR4.out 1).trans rfl; have q40 := blk_frozen BR4.out 0; have q41 := blk_frozen BR4.out 1; clear hb) | (go_at_call 73; (with_reducible refine (impl_in.calls input 0 (wrap64 (a0_0 - 1)) true _ T2.out).mono ?_); rintro e w5 ⟨rfl, hb⟩; replace hb := hb.below; have HB5 := Aside0.mk (below_step HB4.out hb); have BD5 := Aside0.mk (blk_below BD4.out hb); have BR5 := Aside0.mk (blk_below BR4.out hb); have d50 : w5.cell? ⟨g0, 0, none⟩ = some (.int .i64 a0_0) := (blk_cell BD5.out 0).trans rfl; have d51 : w5.cell? ⟨g0, 1, none⟩ = some (.slice A0_1 l0_1.length c0_1) := (blk_cell BD5.out 1).trans rfl; have r50 : w5.cell? ⟨gr, 0, none⟩ = some (.int .i64 0) := (blk_cell BR5.out 0).trans rfl; have r51 : w5.cell? ⟨gr, 1, none⟩ = some (.slice none 0 0) := (blk_cell BR5.out 1).trans rfl; have q50 := blk_frozen BR5.out 0; have q51 := blk_frozen BR5.out 1; clear hb) | (go_at_call 73; (with_reducible refine (impl_in.calls value 0 1 false _ T3.out).mono ?_); rintro e w6 ⟨rfl, hb⟩; replace hb := hb.below; have HB6 := Aside0.mk (below_step HB5.out hb); have BD6 := Aside0.mk (blk_below BD5.out hb); have BR6 := Aside0.mk (blk_below BR5.out hb); have d60 : w6.cell? ⟨g0, 0, none⟩ = some (.int .i64 a0_0) := (blk_cell BD6.out 0).trans rfl; have d61 : w6.cell? ⟨g0, 1, none⟩ = some (.slice A0_1 l0_1.length c0_1) := (blk_cell BD6.out 1).trans rfl; have r60 : w6.cell? ⟨gr, 0, none⟩ = some (.int .i64 0) := (blk_cell BR6.out 0).trans rfl; have r61 : w6.cell? ⟨gr, 1, none⟩ = some (.slice none 0 0) := (blk_cell BR6.out 1).trans rfl; have q60 := blk_frozen BR6.out 0; have q61 := blk_frozen BR6.out 1; clear hb))
     refine bodyPost_ret (results_ct rfl _ _ gr 28 #[.int .i64 0, .slice none 0 0] (0, 0) _ rfl (blk_put (blk_put BR6.out 0 _ rfl) 1 _ rfl) Try.underlying28 rfl (by kernel_rfl)) rfl ?_
     exact ⟨_, rfl, Kd.R_nil _ _ _ _ _, below_set (below_set HB6.out GR.out) GR.out⟩
    | true =>
     rw [if_neg (by decide)] at h
     by_cases cg : (0 ≤ a0_0 ∧ a0_0 ≤ 1000000) ∧ (0 ≤ wrap64 (input + 1) ∧ wrap64 (input + 1) < a0_0 + 1)
     rotate_left
     ·rw [if_neg cg] at h
      cases h
     rw [if_pos cg] at h
     obtain ⟨⟨ca, cb⟩, cc, cd⟩ := cg
     obtain ⟨s, hs, h_⟩ := Option.bind_eq_some_iff.mp h
     obtain ⟨⟨s2, p2⟩, hp, hd⟩ := Option.bind_eq_some_iff.mp h_
     have TS := Aside0.mk hs
     have TP := Aside0.mk hp
     have TD := Aside0.mk hd
     have CI := Aside0.mk (And.intro cc cd)
     obtain ⟨m, hm⟩ : ∃ m, a0_0.toNat + 1 = m := ⟨_, rfl⟩
     have HM := Aside0.mk (show (m : Int) = a0_0 + 1 ∧ m ≤ 1000001 by omega)
     have HWN := Aside0.mk (show wrap64 (1 + a0_0) = (m : Int) by unfold wrap64; omega)
     rw [hm] at hp
     have TP := Aside0.mk hp
     clear h h_ hs hp hd ca cb cc cd hm
     go_enter Try.func25, Try.ntmps25
     go_wp2_with (first | ((with_reducible refine gate_dst (N := 4) rfl ?_); refine box_event ?hg (N := 4) ?hd (cs := #[.int .i64 a0_0, .slice A0_1 l0_1.length c0_1]) (t := 28) ?hr ?_; (case hd => rfl); (case hg => rfl); (case hr => first | (go_simp; done) | (go_simp; rfl)); intro g0 hg0 w1 hbox hb; have BD1 := Aside0.mk hbox; have HB1 := Aside0.mk hb; clear hg0 hbox hb) | ((with_reducible refine gate_dst (N := 8) rfl ?_); refine box_event ?hg (N := 8) ?hd (cs := #[.int .i64 0, .slice none 0 0]) (t := 28) ?hr ?_; (case hd => rfl); (case hg => rfl); (case hr => first | (go_simp; done) | (go_simp; rfl)); intro gr hgr w2 hbox hb; have GR := Aside0.mk (show w.heap.size ≤ gr by rw [hgr]; exact HB1.out.size); have BR2 := Aside0.mk hbox; have BD2 := Aside0.mk (blk_below BD1.out hb); have HB2 := Aside0.mk (below_step HB1.out hb); have d20 : w2.cell? ⟨g0, 0, none⟩ = some (.int .i64 a0_0) := (blk_cell BD2.out 0).trans rfl; have d21 : w2.cell? ⟨g0, 1, none⟩ = some (.slice A0_1 l0_1.length c0_1) := (blk_cell BD2.out 1).trans rfl; clear hgr hbox hb) | (go_at_call 23; (with_reducible refine (impl_CircuitValid.calls k a0_0 A0_1 c0_1 l0_1 true _ (Kd.C_below HR.out HB2.out) HC.out T0.out).mono ?_); rintro e w3 ⟨rfl, hb⟩; have HB3 := Aside0.mk (below_step HB2.out hb); have BD3 := Aside0.mk (blk_below BD2.out hb); have BR3 := Aside0.mk (blk_below BR2.out hb); have d30 : w3.cell? ⟨g0, 0, none⟩ = some (.int .i64 a0_0) := (blk_cell BD3.out 0).trans rfl; have d31 : w3.cell? ⟨g0, 1, none⟩ = some (.slice A0_1 l0_1.length c0_1) := (blk_cell BD3.out 1).trans rfl; have r30 : w3.cell? ⟨gr, 0, none⟩ = some (.int .i64 0) := (blk_cell BR3.out 0).trans rfl; have r31 : w3.cell? ⟨gr, 1, none⟩ = some (.slice none 0 0) := (blk_cell BR3.out 1).trans rfl; have q30 := blk_frozen BR3.out 0; have q31 := blk_frozen BR3.out 1; clear hb) | (go_at_call 59; (with_reducible refine (impl_Circuit_isEdge.calls a0_0 A0_1 c0_1 l0_1 edge true _ (Kd.C_below HR.out HB3.out) HC.out T1.out).mono ?_); rintro e w4 ⟨rfl, hb⟩; have HB4 := Aside0.mk (below_step HB3.out hb); have BD4 := Aside0.mk (blk_below BD3.out hb); have BR4 := Aside0.mk (blk_below BR3.out hb); have d40 : w4.cell? ⟨g0, 0, none⟩ = some (.int .i64 a0_0) := (blk_cell BD4.out 0).trans rfl; have d41 : w4.cell? ⟨g0, 1, none⟩ = some (.slice A0_1 l0_1.length c0_1) := (blk_cell BD4.out 1).trans rfl; have r40 : w4.cell? ⟨gr, 0, none⟩ = some (.int .i64 0) := (blk_cell BR4.out 0).trans rfl; have r41 : w4.cell? ⟨gr, 1, none⟩ = some (.slice none 0 0) := (blk_cell BR4.out 1).trans rfl; have q40 := blk_frozen BR4.out 0; have q41 := blk_frozen BR4.out 1; clear hb) | (go_at_call 73; (with_reducible refine (impl_in.calls input 0 (wrap64 (a0_0 - 1)) true _ T2.out).mono ?_); rintro e w5 ⟨rfl, hb⟩; replace hb := hb.below; have HB5 := Aside0.mk (below_step HB4.out hb); have BD5 := Aside0.mk (blk_below BD4.out hb); have BR5 := Aside0.mk (blk_below BR4.out hb); have d50 : w5.cell? ⟨g0, 0, none⟩ = some (.int .i64 a0_0) := (blk_cell BD5.out 0).trans rfl; have d51 : w5.cell? ⟨g0, 1, none⟩ = some (.slice A0_1 l0_1.length c0_1) := (blk_cell BD5.out 1).trans rfl; have r50 : w5.cell? ⟨gr, 0, none⟩ = some (.int .i64 0) := (blk_cell BR5.out 0).trans rfl; have r51 : w5.cell? ⟨gr, 1, none⟩ = some (.slice none 0 0) := (blk_cell BR5.out 1).trans rfl; have q50 := blk_frozen BR5.out 0; have q51 := blk_frozen BR5.out 1; clear hb) | (go_at_call 73; (with_reducible refine (impl_in.calls value 0 1 true _ T3.out).mono ?_); rintro e w6 ⟨rfl, hb⟩; replace hb := hb.below; have HB6 := Aside0.mk (below_step HB5.out hb); have BD6 := Aside0.mk (blk_below BD5.out hb); have BR6 := Aside0.mk (blk_below BR5.out hb); have d60 : w6.cell? ⟨g0, 0, none⟩ = some (.int .i64 a0_0) := (blk_cell BD6.out 0).trans rfl; have d61 : w6.cell? ⟨g0, 1, none⟩ = some (.slice A0_1 l0_1.length c0_1) := (blk_cell BD6.out 1).trans rfl; have r60 : w6.cell? ⟨gr, 0, none⟩ = some (.int .i64 0) := (blk_cell BR6.out 0).trans rfl; have r61 : w6.cell? ⟨gr, 1, none⟩ = some (.slice none 0 0) := (blk_cell BR6.out 1).trans rfl; have q60 := blk_frozen BR6.out 0; have q61 := blk_frozen BR6.out 1; clear hb) | (go_at_call 60; (with_reducible refine (impl_building.calls0 a0_0 s _ TS.out).mono ?_); rintro e wF ⟨g, rfl, hi, hb⟩; have IF := Aside0.mk (IsB.mono (IF_base HB6.out.size hi) (fun k_ (hk_ : _) => Nat.le_trans HB6.out.size hk_)); have HBF := Aside0.mk (below_step HB6.out hb); have BDF := Aside0.mk (blk_below BD6.out hb); have BRF := Aside0.mk (blk_below BR6.out hb); have f0 : wF.cell? ⟨g0, 0, none⟩ = some (.int .i64 a0_0) := (blk_cell BDF.out 0).trans rfl; clear hi hb) | ((with_reducible refine gate_dst (N := 42) rfl ?_); (try (refine gate_guard (by rfl) ?_; dsimp only)); refine Kd.R_lit (Kd.int .i64) _ 3 ?hg (N := 42) ?hd (xs := ([] : List Int)) (inner := []) (ok := fun _ => True) (okp := fun _ => True) ?hr ?hp (fun _ hk => hk) trivial (Below.refl _ _) (Nat.le_refl _) (by simp) ?_; (case hd => rfl); (case hg => rfl); (case hr => first | (go_simp; done) | (go_simp; rfl)); (case hp => exact (Reps.none _ _)); intro vT wT hoT hb hg_ hnew_; clear hg_ hnew_; have HT := Aside0.mk (Kd.R_lower hoT HBF.out.size); have IT := Aside0.mk (IF.out.below hb); have HBT := Aside0.mk (below_step HBF.out hb); have BDT := Aside0.mk (blk_below BDF.out hb); have BRT := Aside0.mk (blk_below BRF.out hb); have ft0 : wT.cell? ⟨g0, 0, none⟩ = some (.int .i64 a0_0) := (blk_cell BDT.out 0).trans rfl; clear hb hoT))
     go_loopg [11, 46] m (fun gg s11 s46 wr => ∃ (i : Nat), s46 = .int .i64 (i : Int) ∧ Aside0 (i + gg = m) ∧ Aside0 (Kd.R (Kd.int .i64) 3 wr w.heap.size (fun _ => True) s11 (impl_Fixed.to0 i)) ∧ Aside0 (IsB wr w.heap.size (fun k => w.heap.size ≤ k) g s) ∧ Aside0 (wr.heap[g0]? = some (.cells #[.int .i64 a0_0, .slice A0_1 l0_1.length c0_1] 28 (0, 0))) ∧ Aside0 (wr.heap[gr]? = some (.cells #[.int .i64 0, .slice none 0 0] 28 (0, 0))) ∧ Aside0 (Below w.heap.size w wr))
     case atStart => exact ⟨0, rfl, ⟨by omega⟩, HT, IT, BDT, BRT, HBT⟩
     case round =>
      clear HT IT BDT BRT HBT
      obtain ⟨i, rfl, HI, HT, IT, BD, BR, HB⟩ := hrel
      by_cases c2 : i < m
      ·obtain ⟨k1, rfl⟩ : ∃ k1, gk = k1 + 1 := ⟨gk - 1, by have := HI.out; omega⟩
       have c2b : decide ((i : Int) < (m : Int)) = true := decide_eq_true (by omega)
       have c2e : decide ((i : Int) < wrap64 (1 + a0_0)) = true := by rw [HWN.out]; exact c2b
       have hw2 : wrap64 ((i : Int) + 1) = (i : Int) + 1 := by have := HM.out; unfold wrap64; omega
       have hw2' : (IntKind.i64.wrap ((i : Int) + 1)) = (i : Int) + 1 := (i64_w _).trans hw2
       have LM := Aside0.mk (show ((impl_Fixed.to0 i).length + 1) * 8 ≤ 140737488355328 by rw [impl_Fixed.to0_len]; have := HM.out; omega)
       go_wp2_with ((with_reducible refine gate_builtin (b := .append) (xs := #[.tmp 49, .tmp 52]) rfl ?_); at_builtin; refine Kd.R_append (Kd.int .i64) (w0 := w) w.heap.size rfl (.tmp 49) (.tmp 52) 38 3 (.int .i64 0) 8 rfl Try.underlying38 info3 rfl (by decide) (by omega) u11 (impl_Fixed.to0 i) (wrap64 (2 * (i : Int))) [.int .i64 (wrap64 (2 * (i : Int)))] (fun _ => True) (fun _ => False) rfl rfl ?aP (fun _ hk => hk.elim) ?aF ?aO ?aB ?aS ?aL ?_; (case aP => exact rfl); (case aB => exact HB.out); (case aF => exact (fun _ _ => trivial)); (case aO => exact HT.out); (case aS => exact HB.out.size); (case aL => exact LM.out); intro v1 w5 ho hb hg hat; rw [← impl_Fixed.to0_succ] at ho; have n0 := Aside0.mk ho; have n1 := Aside0.mk (IT.out.over HT.out hg); have n2 := Aside0.mk (blk_grown BD.out hg (Kd.R_ne HT.out BD.out (by decide))); have n3 := Aside0.mk (blk_grown BR.out hg (Kd.R_ne HT.out BR.out (by decide))); have n4 := Aside0.mk hb; clear ho hb hg hat HT IT BD BR HB)
       go_roundg k1
       case measure => exact Nat.lt_succ_self _
       case rel => exact ⟨i + 1, by first | rfl | (simp only [Int.natCast_add]; rfl) | simp [hw2, hw2'], ⟨by have := HI.out; omega⟩, n0, n1, n2, n3, n4⟩
      ·have hi : m = i := by have := HI.out; omega
       subst hi
       have c2b : decide ((m : Int) < (m : Int)) = false := decide_eq_false (by omega)
       have c2e : decide ((m : Int) < wrap64 (1 + a0_0)) = false := by rw [HWN.out]; exact c2b
       have p13 : 0 ≤ wrap64 (input + 1) := CI.out.1
       have q13 : wrap64 (input + 1) < ((impl_Fixed.to0 m).length : Int) := by rw [impl_Fixed.to0_len]; have := CI.out.2; have := HM.out; omega
       have HL0 := Aside0.mk (impl_Fixed.to0_len m)
       obtain ⟨y0, hy0⟩ : ∃ y0, y0 = impl_Fixed.to0 m := ⟨_, rfl⟩
       have HY0 := Aside0.mk hy0
       rw [← hy0] at HT q13 HL0
       clear hy0
       obtain ⟨go13, co13, eo13, gb13, gl13, cl13, HG13⟩ := Kd.R_form HT.out (by have := HL0.out; omega)
       cases eo13
       have GB13 := Aside0.mk gb13
       obtain ⟨hx13_0, hf13_0⟩ := Kd.R_celln 0 HT.out (wrap64 (input + 1)) p13 q13
       replace p13 := eq_true p13
       replace q13 := eq_true q13
       have HP14 := Kd.R_putg HT.out (wrap64 (input + 1)) value
       have fd1 : wr.cell? ⟨g0, 1, none⟩ = some (.slice A0_1 l0_1.length c0_1) := (blk_cell BD.out 1).trans rfl
       clear gb13 gl13 HG13
       go_wp2_with ((with_reducible refine gate_store (t := 3) (p := 59) rfl ?_); refine store_event (t := 3) (p := 59) (v := ?vo_w) (w1 := (wr.setCell ⟨go13, (wrap64 (input + 1)).toNat, none⟩ (.int .i64 value))) ?hg ?ho ?hn ?hr ?_; (case ho => rfl); (case hg => rfl); (case hn => rfl); (case hr => first | (go_simp; done) | (go_simp; rfl)); intro w15 hw; have hg : wr.grownBy w15 (some go13) := (by rw [hw]; exact HP14.2); have n0 := Aside0.mk (show Kd.R (Kd.int .i64) 3 w15 w.heap.size (fun _ => True) (.slice (some ⟨go13, 0, none⟩) y0.length co13) (y0.set (wrap64 (input + 1)).toNat value) by rw [hw]; exact HP14.1); have n1 := Aside0.mk (IT.out.over HT.out hg); have n2 := Aside0.mk (blk_grown BD.out hg (Kd.R_ne HT.out BD.out (by decide))); have n3 := Aside0.mk (blk_grown BR.out hg (Kd.R_ne HT.out BR.out (by decide))); have n4 := Aside0.mk ((by rw [hw]; exact below_set HB.out GB13.out : Below w.heap.size w w15)); clear HP14 hx13_0 hf13_0 fd1 p13 q13 hw hg HT IT BD BR HB; have fd1 : w15.cell? ⟨g0, 1, none⟩ = some (.slice A0_1 l0_1.length c0_1) := (blk_cell n2.out 1).trans rfl)
       go_loopg [11, 63] l0_1.length (fun gg s11 s63 wr => ∃ (i : Nat) (sB : BS) (toL : List Int), s63 = .int .i64 (i : Int) ∧ Aside0 (i + gg = l0_1.length) ∧ Aside0 (impl_Fixed.lp (l0_1.drop i) sB toL = some (s2, p2)) ∧ Aside0 (Kd.R (Kd.int .i64) 3 wr w.heap.size (fun _ => True) s11 toL) ∧ Aside0 (IsB wr w.heap.size (fun k => w.heap.size ≤ k) g sB) ∧ Aside0 (wr.heap[g0]? = some (.cells #[.int .i64 a0_0, .slice A0_1 l0_1.length c0_1] 28 (0, 0))) ∧ Aside0 (wr.heap[gr]? = some (.cells #[.int .i64 0, .slice none 0 0] 28 (0, 0))) ∧ Aside0 (Below w.heap.size w wr))
       case atStart => exact ⟨0, s, _, rfl, ⟨by omega⟩, ⟨by rw [List.drop_zero]; exact TP.out⟩, ⟨by rw [← HY0.out]; first | exact n0.out | (have := n0.out; rw [show y0.length = (y0.set (wrap64 (input + 1)).toNat value).length by simp] at this; exact this)⟩, n1, n2, n3, n4⟩
       case round =>
        clear n0 n1 n2 n3 n4 fd1
        obtain ⟨i, sB, toL, rfl, HI, HLP, HT, IT, BD, BR, HB⟩ := hrel
        obtain ⟨AT, cT, rfl⟩ := Kd.R_slice HT.out
        by_cases c3 : i < l0_1.length
        ·obtain ⟨k1, rfl⟩ : ∃ k1, gk = k1 + 1 := ⟨gk - 1, by have := HI.out; omega⟩
         have c3a : (i : Int) < (l0_1.length : Int) := by omega
         have c3b : decide ((i : Int) < (l0_1.length : Int)) = true := decide_eq_true c3a
         have c3c : (0 : Int) ≤ (i : Int) := by omega
         have c3d : decide ((0 : Int) ≤ (i : Int)) = true := decide_eq_true c3c
         obtain ⟨ad, rfl, hx0, hx1⟩ := at_T92 HR.out (i : Int) c3c c3a
         obtain ⟨x, hx⟩ : ∃ x, rd_T92 l0_1 (i : Int) = x := ⟨_, rfl⟩
         have hxe : l0_1[i] = x := by rw [← hx]; unfold rd_T92; rw [List.getD_eq_getElem?_getD, Int.toNat_natCast, List.getElem?_eq_getElem c3]; rfl
         have hlp := HLP.out
         rw [List.drop_eq_getElem_cons c3, hxe, impl_Fixed.lp] at hlp
         rw [hx] at hx0 hx1
         simp only [Int.toNat_natCast] at hx0 hx1
         replace hx0 := (HB.out.cell (World.block_lt_of_cell? w _ hx0)).trans hx0
         replace hx1 := (HB.out.cell (World.block_lt_of_cell? w _ hx1)).trans hx1
         by_cases cj : impl_Fixed.in_ toL x.f0 ∧ impl_Fixed.in_ toL x.f1 ∧ toL.length < 1000000000
         rotate_left
         ·rw [if_neg cj] at hlp
          cases hlp
         rw [if_pos cj] at hlp
         obtain ⟨⟨p0, q0⟩, ⟨p1, q1⟩, lt⟩ := cj
         obtain ⟨⟨sC, rC⟩, ha, hlp⟩ := Option.bind_eq_some_iff.mp hlp
         have HA := Aside0.mk ha
         have HLP := Aside0.mk hlp
         have LT := Aside0.mk (show (toL.length + 1) * 8 ≤ 140737488355328 by omega)
         have PQ := Aside0.mk (And.intro (And.intro p0 q0) (And.intro p1 q1))
         have hw2 : wrap64 ((i : Int) + 1) = (i : Int) + 1 := by
          have h1 := (Kd.C_max HR.out)
          unfold wrap64; omega
         have hw2' : (IntKind.i64.wrap ((i : Int) + 1)) = (i : Int) + 1 := (i64_w _).trans hw2
         clear hx hxe ha hlp lt p0 q0 p1 q1
         go_wp2_with ((with_reducible refine gate_dst (N := 14) rfl ?_); refine box_event ?hg (N := 14) ?hd (cs := #[.int .i64 0, .int .i64 0]) (t := 92) ?hr ?_; (case hd => rfl); (case hg => rfl); (case hr => first | (go_simp; done) | (go_simp; rfl)); intro gb hgb w7 hbox hb; have BX0 := Aside0.mk hbox; have HB7 := Aside0.mk hb; have hz0 : w7.cell? ⟨gb, 0, none⟩ = some (.int .i64 0) := (blk_cell BX0.out 0).trans rfl; have hz1 : w7.cell? ⟨gb, 1, none⟩ = some (.int .i64 0) := (blk_cell BX0.out 1).trans rfl; have hy0 := blk_frozen BX0.out 0; have hy1 := blk_frozen BX0.out 1; have HGB := Aside0.mk hgb; clear hgb hbox hb)
         have n0 : Aside0 (Below wr.heap.size wr ((w7.setCell ⟨gb, 0, none⟩ (.int .i64 x.f0)).setCell ⟨gb, 1, none⟩ (.int .i64 x.f1))) := ⟨below_set (below_set HB7.out (Nat.le_of_eq HGB.out.symm)) (Nat.le_of_eq HGB.out.symm)⟩
         have n1 : Aside0 (((w7.setCell ⟨gb, 0, none⟩ (.int .i64 x.f0)).setCell ⟨gb, 1, none⟩ (.int .i64 x.f1)).heap[gb]? = some (.cells #[.int .i64 x.f0, .int .i64 x.f1] 92 (0, 0))) := ⟨blk_put (blk_put BX0.out 0 _ rfl) 1 _ rfl⟩
         generalize ((w7.setCell ⟨gb, 0, none⟩ (.int .i64 x.f0)).setCell ⟨gb, 1, none⟩ (.int .i64 x.f1)) = w8 at n0 n1 ⊢
         clear hz0 hz1 hy0 hy1 BX0 HB7 hx0 hx1
         have HT8 := Aside0.mk (Kd.R_drew (Kd.R_below HT.out n0.out))
         have p0 : 0 ≤ wrap64 (Int.tdiv x.f0 2) := PQ.out.1.1
         have q0 : wrap64 (Int.tdiv x.f0 2) < (toL.length : Int) := PQ.out.1.2
         have p1 : 0 ≤ wrap64 (Int.tdiv x.f1 2) := PQ.out.2.1
         have q1 : wrap64 (Int.tdiv x.f1 2) < (toL.length : Int) := PQ.out.2.2
         obtain ⟨aT, eT, t0⟩ := Kd.at_int (Kd.R_reads' HT8.out).2.2 (wrap64 (Int.tdiv x.f0 2)) p0 q0
         cases eT
         obtain ⟨aT2, eT, t1⟩ := Kd.at_int (Kd.R_reads' HT8.out).2.2 (wrap64 (Int.tdiv x.f1 2)) p1 q1
         cases eT
         have AT9 : Aside0 (∀ (W : World), Kd.R (Kd.int .i64) 3 W w.heap.size (fun _ => True) (.slice (some aT) toL.length cT) toL → W.cell? (aT.add (wrap64 (Int.tdiv x.f0 2)).toNat) = some (.int .i64 (rd toL (wrap64 (Int.tdiv x.f0 2)))) ∧ W.cell? (aT.add (wrap64 (Int.tdiv x.f1 2)).toNat) = some (.int .i64 (rd toL (wrap64 (Int.tdiv x.f1 2))))) := ⟨fun W hW => by
          obtain ⟨b0, e0, u0⟩ := Kd.at_int (Kd.R_reads' hW).2.2 (wrap64 (Int.tdiv x.f0 2)) PQ.out.1.1 PQ.out.1.2
          cases e0
          obtain ⟨b1, e1, u1⟩ := Kd.at_int (Kd.R_reads' hW).2.2 (wrap64 (Int.tdiv x.f1 2)) PQ.out.2.1 PQ.out.2.2
          cases e1
          exact ⟨u0, u1⟩⟩
         replace p0 := eq_true p0
         replace q0 := eq_true q0
         replace p1 := eq_true p1
         replace q1 := eq_true q1
         refine start_ (n := 26) (S := fun w' => w'.cell? ⟨gb, 0, none⟩ = some (.int .i64 x.f0) ∧ w'.cell? ⟨gb, 1, none⟩ = some (.int .i64 x.f1) ∧ w'.cell? (aT.add (wrap64 (Int.tdiv x.f0 2)).toNat) = some (.int .i64 (rd toL (wrap64 (Int.tdiv x.f0 2)))) ∧ w'.cell? (aT.add (wrap64 (Int.tdiv x.f1 2)).toNat) = some (.int .i64 (rd toL (wrap64 (Int.tdiv x.f1 2))))) (ds := [24]) (Pt.bm 26 0) (by kernel_rfl) rfl rfl ⟨(blk_cell (blk_drew n1.out) 0).trans rfl, (blk_cell (blk_drew n1.out) 1).trans rfl, t0, t1⟩ (fun hHeld => ?_)
         have HB9 := Aside0.mk (below_step n0.out (below_drew (Below.refl _ _)))
         have BB9 := Aside0.mk (blk_drew n1.out)
         clear t0 t1 n0 n1
         generalize w8.drew = w9 at HB9 BB9 HT8 hHeld ⊢
         have IT9 := Aside0.mk (IT.out.sep HB9.out (Nat.le_of_eq HGB.out.symm))
         have BD9 := Aside0.mk (blk_below BD.out HB9.out)
         have BR9 := Aside0.mk (blk_below BR.out HB9.out)
         have HBB := Aside0.mk (below_step HB.out HB9.out)
         clear HT IT BD BR HB
         refine Pt.pu 0 (some 67) (Pt.bm 26 1) (by kernel_rfl) ?_
         refine Pt.pu 1 (some 68) (Pt.bm 26 3) (by kernel_rfl) ?_
         refine Pt.pu 2 (some 69) (Pt.bm 26 7) (by kernel_rfl) ?_
         refine Pt.pu 3 (some 70) (Pt.bm 26 15) (by kernel_rfl) ?_
         refine Pt.tk 4 (some 71) (Pt.bm 26 31) rfl rfl (by kernel_rfl) hHeld (Or.inl ⟨by rfl, by rintro w' ⟨s0, s1, s2, s3⟩; go_simp; with_reducible rfl⟩) ?_
         refine Pt.pu 5 (some 72) (Pt.bm 26 63) (by kernel_rfl) ?_
         refine Pt.pu 6 (some 73) (Pt.bm 26 127) (by kernel_rfl) ?_
         refine Pt.tk 7 (some 74) (Pt.bm 26 255) rfl rfl (by kernel_rfl) hHeld (Or.inl ⟨by rfl, by rintro w' ⟨s0, s1, s2, s3⟩; go_simp; with_reducible rfl⟩) ?_
         refine Pt.pu 8 (some 75) (Pt.bm 26 511) (by kernel_rfl) ?_
         refine Pt.tk 9 (some 76) (Pt.bm 26 1023) rfl rfl (by kernel_rfl) hHeld (Or.inl ⟨by rfl, by rintro w' ⟨s0, s1, s2, s3⟩; go_simp; with_reducible rfl⟩) ?_
         refine Pt.pu 10 (some 77) (Pt.bm 26 2047) (by kernel_rfl) ?_
         refine Pt.pu 11 (some 78) (Pt.bm 26 4095) (by kernel_rfl) ?_
         refine Pt.pu 12 (some 79) (Pt.bm 26 8191) (by kernel_rfl) ?_
         refine Pt.pu 13 (some 80) (Pt.bm 26 16383) (by kernel_rfl) ?_
         refine Pt.tk 14 (some 81) (Pt.bm 26 32767) rfl rfl (by kernel_rfl) hHeld (Or.inl ⟨by rfl, by rintro w' ⟨s0, s1, s2, s3⟩; go_simp; with_reducible rfl⟩) ?_
         refine Pt.pu 15 (some 82) (Pt.bm 26 65535) (by kernel_rfl) ?_
         refine Pt.pu 16 (some 83) (Pt.bm 26 131071) (by kernel_rfl) ?_
         refine Pt.tk 17 (some 84) (Pt.bm 26 262143) rfl rfl (by kernel_rfl) hHeld (Or.inl ⟨by rfl, by rintro w' ⟨s0, s1, s2, s3⟩; go_simp; with_reducible rfl⟩) ?_
         refine Pt.pu 18 (some 85) (Pt.bm 26 524287) (by kernel_rfl) ?_
         refine Pt.tk 19 (some 86) (Pt.bm 26 1048575) rfl rfl (by kernel_rfl) hHeld (Or.inl ⟨by rfl, by rintro w' ⟨s0, s1, s2, s3⟩; go_simp; with_reducible rfl⟩) ?_
         refine Pt.pu 20 (some 87) (Pt.bm 26 2097151) (by kernel_rfl) ?_
         refine Pt.pu 21 (some 88) (Pt.bm 26 4194303) (by kernel_rfl) ?_
         refine one_ (i := 22) (N := some 89) (Pt.bm 26 8388607) rfl rfl (by kernel_rfl) (by decide) (fun K hK => ?_)
         refine goes_ Try.func77 (by kernel_rfl) rfl #[.pointer (some ⟨g, 0, none⟩), .int .i64 (impl_Fixed.at_ toL x.f0), .int .i64 (impl_Fixed.at_ toL x.f1)] (by rfl) rfl rfl (by (try simp only [List.map_toArray, List.map_cons, List.map_nil]); first | done | rfl) ?_
         refine (impl_builder_and.calls sB sC _ _ rC _ g w _ HBB.out IT9.out (fun k hk => ⟨Nat.le_trans HBB.out.size hk, fun e_ => by have := blk_lt BB9.out; omega, fun ⟨_, _, _, hc_⟩ => by have := blk_lt hc_; omega⟩) HA.out).mono ?_
         rintro e w10 ⟨rfl, hi, hb, hk⟩
         refine ⟨_, rfl, ?_⟩
         have IT10 := Aside0.mk (IsB.mono hi (fun k hk_ => hk_.1))
         have BB10 := Aside0.mk (blk_kept BB9.out hk (fun h_ => h_.2.1 rfl))
         have BD10 := Aside0.mk (blk_kept BD9.out hk (fun h_ => h_.2.2 ⟨_, _, .inr rfl, BD9.out⟩))
         have BR10 := Aside0.mk (blk_kept BR9.out hk (fun h_ => h_.2.2 ⟨_, _, .inr rfl, BR9.out⟩))
         have HT10 := Aside0.mk (Kd.R_mono (ok' := fun _ => True) (Kd.R_kept (Kd.R_bound HT8.out) hk (fun k hk_ h_ => by
          obtain ⟨_, _, _, q, hq, cells, hc⟩ := hk_
          rw [List.mem_singleton.mp hq] at hc
          exact h_.2.2 ⟨_, _, .inl rfl, hc⟩)) (fun _ _ => trivial))
         have HB10 := Aside0.mk hb
         obtain ⟨u0, u1⟩ := AT9.out _ HT10.out
         refine hK.out _ _ ⟨(blk_cell BB10.out 0).trans rfl, (blk_cell BB10.out 1).trans rfl, u0, u1⟩ (fun hHeld => ?_)
         clear hK K u0 u1 hi hb hk HBB IT9 BB9 BD9 BR9 HT8 HB9
         refine norm_ (a' := ?_) ?_ ?_
         rotate_left
         ·show Act.put _ (some 89) _ = _
          simp only [Act.put, List.setIfInBounds_toArray, List.set_cons_zero, List.set_cons_succ, i64_w, i32_w]
          rfl
         refine one_ (i := 23) (N := some 90) (Pt.bm 26 16777215) rfl rfl (by kernel_rfl) (by decide) (fun K hK => ?_)
         refine value_ (w1 := ?_) (v := ?_) (by rfl) rfl ?_ ?_
         rotate_left 2
         ·go_simp
          constructor
          ·rfl
          ·rfl
         obtain ⟨u0, u1⟩ := AT9.out _ (Kd.R_alloc HT10.out _)
         refine hK.out _ _ ⟨(blk_cell (blk_alloc BB10.out _) 0).trans rfl, (blk_cell (blk_alloc BB10.out _) 1).trans rfl, u0, u1⟩ (fun hHeld => ?_)
         clear hK K u0 u1
         refine norm_ (a' := ?_) ?_ ?_
         rotate_left
         ·show Act.put _ (some 90) _ = _
          simp only [Act.put, List.setIfInBounds_toArray, List.set_cons_zero, List.set_cons_succ, i64_w, i32_w]
          rfl
         refine last_ (i := 24) (N := some 91) (Pt.bm 26 33554431) rfl rfl (by kernel_rfl) (by decide) (fun K hK => ?_)
         refine Kd.R_append_step (Kd.int .i64) (w0 := w) w.heap.size (by rfl) (.tmp 67) (.tmp 90) 38 3 (.int .i64 0) 8 rfl Try.underlying38 info3 rfl (by decide) (by omega) (.slice (some aT) toL.length cT) toL rC [.int .i64 rC] (fun _ => True) (fun _ => False) rfl rfl rfl (fun _ hk => hk.elim) (fun _ _ => trivial) HT10.out HB10.out HB10.out.size LT.out ?_
         intro v1 w11 ho hb hg _
         obtain ⟨A1, cc1, rfl⟩ := Kd.R_slice ho
         have IT11 := Aside0.mk (IT10.out.over HT10.out hg)
         have BD11 := Aside0.mk (blk_grown BD10.out hg (Kd.R_ne HT10.out BD10.out (by decide)))
         have BR11 := Aside0.mk (blk_grown BR10.out hg (Kd.R_ne HT10.out BR10.out (by decide)))
         have HT11 := Aside0.mk ho
         have HB11 := Aside0.mk hb
         refine hK.out _ _ ?_
         clear hK K ho hb hg hHeld IT10 BD10 BR10 BB10 HT10 HB10
         refine norm_ (a' := ?_) ?_ ?_
         rotate_left
         ·show Act.put _ (some 91) _ = _
          simp only [Act.put, List.setIfInBounds_toArray, List.set_cons_zero, List.set_cons_succ, i64_w, i32_w]
          rfl
         refine Pt.pu 25 (some 11) (Pt.bm 26 67108863) (by kernel_rfl) ?_
         refine done_ (by kernel_rfl) ?_
         go_wp2
         go_roundg k1
         case measure => exact Nat.lt_succ_self _
         case rel => exact ⟨i + 1, sC, toL ++ [rC], by first | rfl | (simp only [Int.natCast_add]; rfl) | simp [hw2, hw2'], ⟨by have := HI.out; omega⟩, HLP, ⟨by have h_ := HT11.out; rw [show (toL ++ [rC]).length = toL.length + 1 by simp] at h_; exact h_⟩, IT11, BD11, BR11, HB11⟩
        ·have hi : i = l0_1.length := by have := HI.out; omega
         subst hi
         have c3b : decide ((l0_1.length : Int) < (l0_1.length : Int)) = false := decide_eq_false (by omega)
         have hlp := HLP.out
         rw [List.drop_length, impl_Fixed.lp] at hlp
         obtain ⟨rfl, rfl⟩ := Prod.mk.inj (Option.some.inj hlp)
         have hd := TD.out
         try simp only at hd
         by_cases ce : impl_Fixed.in_ toL edge
         rotate_left
         ·rw [if_neg ce] at hd
          cases hd
         rw [if_pos ce] at hd
         have TD : Aside0 (impl_builder_done.f sB (Go.bits .xor .i64 (rd toL (wrap64 (Int.tdiv edge 2))) (Go.bits .and .i64 edge 1)) = some (r1, r2, r3)) := ⟨hd⟩
         obtain ⟨p0, q0⟩ := ce
         obtain ⟨aT, eT, t0⟩ := Kd.at_int (Kd.R_reads' HT.out).2.2 (wrap64 (Int.tdiv edge 2)) p0 q0
         cases eT
         replace p0 := eq_true p0
         replace q0 := eq_true q0
         clear hlp hd
         go_wp2_with (go_at_call 61; (with_reducible refine (impl_builder_done.calls sB _ r1 r2 r3 _ _ g _ IT.out TD.out).mono ?_); rintro e wD ⟨v1, rfl, hR, hb⟩; obtain ⟨A5, c5, rfl⟩ := Kd.R_slice hR; have HBD := Aside0.mk (below_step HB.out hb); have BRD := Aside0.mk (blk_below BR.out hb); have RD := Aside0.mk (Kd.R_lower hR HB.out.size); have r90 : wD.cell? ⟨gr, 0, none⟩ = some (.int .i64 0) := (blk_cell BRD.out 0).trans rfl; have r91 : wD.cell? ⟨gr, 1, none⟩ = some (.slice none 0 0) := (blk_cell BRD.out 1).trans rfl; have q90 := blk_frozen BRD.out 0; have q91 := blk_frozen BRD.out 1; clear hR hb)
         refine bodyPost_ret (results_ct rfl _ _ gr 28 #[.int .i64 r1, .slice A5 r2.length c5] (0, 0) _ rfl (blk_put (blk_put BRD.out 0 _ rfl) 1 _ rfl) Try.underlying28 rfl (by kernel_rfl)) rfl ?_
         exact ⟨_, rfl, Kd.R_mono (Kd.R_far (p := ⟨gr, 1, none⟩) (Kd.R_far (p := ⟨gr, 0, none⟩) (Kd.R_types RD.out BRD.out (by decide)) (fun _ hk => hk.2) _) (fun _ hk => hk.2) _) (fun _ _ => trivial), below_set (below_set HBD.out GR.out) GR.out⟩

end Go.Proofs.Ytpcckoljocpchaa.QFnExactFixed
