-- Written by a program of this session (mk.py). Lean checks it.
import Derived.Test.YtpcompnmadpljaaQFnDiagramOfx0
import Derived.Test.YtpcompnmadpljaaQFnDiagramOfx1
namespace Go.Proofs.Ytpcompnmadpljaa.QFnDiagramOf
open Go.RowKit Go.Proofs.YtpcompnmadpljaaW.PrintWords Go.Proofs.YtpcompnmadpljaaW.PrintLast Go.Proofs.YtpcompnmadpljaaW.PrintMore
attribute [local go_sem] max2_int min2_int max_two min_two max_three min_three max_four min_four   -- for this text's walks alone
set_option linter.unusedVariables false
set_option linter.unusedSimpArgs false

/-! ### impl_forking_fork: function 57 -/
def impl_forking_fork.f (s : FS) (v lo hi : Int) : Option (FS × Int) :=
 if lo = hi then some (s, lo) else if okF ⟨v, lo, hi⟩ then
  match s.seen ⟨v, lo, hi⟩ with
  | some n => some (s, n)
  | none => if 2000 ≤ (s.forks.length : Int) then some ({ s with full := true }, 0) else some ({ s with forks := s.forks ++ [⟨v, lo, hi⟩], seen := fun y => if y = ⟨v, lo, hi⟩ then some ((s.forks.length : Int) + 2) else s.seen y }, (s.forks.length : Int) + 2)
 else none
set_option maxHeartbeats 4000000 in
set_option maxRecDepth 100000 in
theorem impl_forking_fork.calls (s s' : FS) (v lo hi r : Int) (ok : Nat → Prop) (g : Nat) (w0 w : World) (hB : Below w0.heap.size w0 w) (hI : IsF w w0.heap.size ok g s) (hf : ∀ k, w.heap.size ≤ k → ok k) (h : impl_forking_fork.f s v lo hi = some (s', r)) :
  Calls Try.prog 57 #[.pointer (some ⟨g, 0, none⟩), .int .i64 v, .int .i64 lo, .int .i64 hi] w fun e w' => e = .returned (.int .i64 r) ∧ IsF w' w0.heap.size ok g s' ∧ Below w0.heap.size w0 w' ∧ Kept w w' ok := by
 have hu25 := Try.underlying25
 have hu71 := Try.underlying71
 have hu113 := Try.underlying113
 have HI := Aside0.mk hI
 have HB := Aside0.mk hB
 have HF := Aside0.mk hf
 unfold impl_forking_fork.f at h
 clear hI hB hf
 by_cases c1 : lo = hi
 ·rw [if_pos c1] at h
  obtain ⟨rfl, rfl⟩ := Prod.mk.inj (Option.some.inj h)
  have c1b : (lo == hi) = true := beq_iff_eq.mpr c1
  clear h c1
  go_enter Try.func57, Try.ntmps57
  go_wp2
  go_ret
  exact ⟨rfl, HI.out, HB.out, Kept.refl _ _⟩
 ·rw [if_neg c1] at h
  have c1b : (lo == hi) = false := beq_eq_false_iff_ne.mpr c1
  clear c1
  by_cases c2 : okF ⟨v, lo, hi⟩
  ·rw [if_pos c2] at h
   have C2 := Aside0.mk c2
   have H := Aside0.mk h
   clear c2 h
   obtain ⟨u, b1, b2, hg, hR, hM1, hM2, hne, k1, k2, k3, k4, k5, k6⟩ := HI.out
   obtain ⟨A, c, rfl⟩ := Kd.R_slice hR
   have BG := Aside0.mk hg
   have HR := Aside0.mk hR
   have M1 := Aside0.mk hM1
   have M2 := Aside0.mk hM2
   have KS := Aside0.mk (And.intro hne (And.intro k1 (And.intro k2 (And.intro k3 (And.intro k4 (And.intro k5 k6))))))
   clear hg hR hM1 hM2 hne k1 k2 k3 k4 k5 k6
   go_enter Try.func57, Try.ntmps57
   go_wp2_with ((with_reducible refine gate_dst (N := 9) rfl ?_); refine box_event ?hg (N := 9) ?hd (cs := #[.int .i64 0, .int .i64 0, .int .i64 0]) (t := 71) ?hr ?_; (case hd => rfl); (case hg => rfl); (case hr => first | (go_simp; done) | (go_simp; rfl)); intro gb hgb w3 hbox hb; have BX0 := Aside0.mk hbox; have HB3 := Aside0.mk hb; have hz0 : w3.cell? ⟨gb, 0, none⟩ = some (.int .i64 0) := (blk_cell BX0.out 0).trans rfl; have hz1 : w3.cell? ⟨gb, 1, none⟩ = some (.int .i64 0) := (blk_cell BX0.out 1).trans rfl; have hz2 : w3.cell? ⟨gb, 2, none⟩ = some (.int .i64 0) := (blk_cell BX0.out 2).trans rfl; have hy0 := blk_frozen BX0.out 0; have hy1 := blk_frozen BX0.out 1; have hy2 := blk_frozen BX0.out 2; have HGB := Aside0.mk hgb; clear hgb hbox hb)
   have n0 : Aside0 (Below w.heap.size w (((w3.setCell ⟨gb, 0, none⟩ (.int .i64 v)).setCell ⟨gb, 1, none⟩ (.int .i64 lo)).setCell ⟨gb, 2, none⟩ (.int .i64 hi))) := ⟨below_set (below_set (below_set HB3.out (Nat.le_of_eq HGB.out.symm)) (Nat.le_of_eq HGB.out.symm)) (Nat.le_of_eq HGB.out.symm)⟩
   have n1 : Aside0 ((((w3.setCell ⟨gb, 0, none⟩ (.int .i64 v)).setCell ⟨gb, 1, none⟩ (.int .i64 lo)).setCell ⟨gb, 2, none⟩ (.int .i64 hi)).heap[gb]? = some (.cells #[.int .i64 v, .int .i64 lo, .int .i64 hi] 71 (0, 0))) := ⟨blk_put (blk_put (blk_put BX0.out 0 _ rfl) 1 _ rfl) 2 _ rfl⟩
   generalize (((w3.setCell ⟨gb, 0, none⟩ (.int .i64 v)).setCell ⟨gb, 1, none⟩ (.int .i64 lo)).setCell ⟨gb, 2, none⟩ (.int .i64 hi)) = w4 at n0 n1 ⊢
   clear hz0 hz1 hz2 hy0 hy1 hy2 BX0 HB3
   have HB4 := n0
   have BX := n1
   have BG4 := Aside0.mk (blk_below BG.out HB4.out)
   have M4 := Aside0.mk (M1.out.below HB4.out)
   clear n0 n1
   refine start_ (n := 11) (S := fun w' => w'.cell? ⟨g, 2, none⟩ = some (.map (some b1)) ∧ w'.cell? ⟨gb, 0, none⟩ = some (.int .i64 v) ∧ w'.cell? ⟨gb, 1, none⟩ = some (.int .i64 lo) ∧ w'.cell? ⟨gb, 2, none⟩ = some (.int .i64 hi) ∧ Mp.Is ekF okF (Value.int .i64) w' b1 s.seen) (ds := []) (Pt.bm 11 0) (by kernel_rfl) rfl rfl ⟨(blk_cell BG4.out 2).trans rfl, (blk_cell BX.out 0).trans rfl, (blk_cell BX.out 1).trans rfl, (blk_cell BX.out 2).trans rfl, M4.out.drew⟩ (fun hHeld => ?_)
   refine Pt.pu 0 (some 21) (Pt.bm 11 1) (by kernel_rfl) ?_
   refine Pt.pu 1 (some 22) (Pt.bm 11 3) (by kernel_rfl) ?_
   refine Pt.pu 2 (some 23) (Pt.bm 11 7) (by kernel_rfl) ?_
   refine Pt.tk 3 (some 24) (Pt.bm 11 15) rfl rfl (by kernel_rfl) hHeld (Or.inl ⟨by rfl, by rintro w' ⟨s0, s1, s2, s3, sM⟩; go_simp; with_reducible rfl⟩) ?_
   refine Pt.tk 4 (some 25) (Pt.bm 11 31) rfl rfl (by kernel_rfl) hHeld (Or.inl ⟨by rfl, by rintro w' ⟨s0, s1, s2, s3, sM⟩; go_simp; with_reducible rfl⟩) ?_
   cases hs : s.seen ⟨v, lo, hi⟩ with
   | some n =>
    have H2 := H.out
    rw [hs] at H2
    obtain ⟨rfl, rfl⟩ := Prod.mk.inj (Option.some.inj H2)
    clear H H2
    refine Pt.tk 5 (some 26) (Pt.bm 11 63) rfl rfl (by kernel_rfl) hHeld (Or.inl ⟨by rfl, by rintro w' ⟨s0, s1, s2, s3, sM⟩; exact Mp.run_some (.tmp 24) (.tmp 25) rfl rfl sM keyF Try.underlying110 zero_int ⟨v, lo, hi⟩ rfl C2.out hs⟩) ?_
    refine Pt.pu 6 (some 20) (Pt.bm 11 127) (by kernel_rfl) ?_
    refine Pt.pu 7 (some 27) (Pt.bm 11 255) (by kernel_rfl) ?_
    refine Pt.pu 8 (some 28) (Pt.bm 11 511) (by kernel_rfl) ?_
    refine Pt.pu 9 (some 10) (Pt.bm 11 1023) (by kernel_rfl) ?_
    refine Pt.pu 10 (some 11) (Pt.bm 11 2047) (by kernel_rfl) ?_
    refine done_ (by kernel_rfl) ?_
    go_wp2
    go_ret
    have HB5 := below_step HB4.out (below_drew (Below.refl _ _))
    exact ⟨rfl, HI.out.below HB5, below_then HB.out HB.out.size HB5, Kept.of_below HB5 _⟩
   | none =>
    have H2 := H.out
    rw [hs] at H2
    clear H
    refine Pt.tk 5 (some 26) (Pt.bm 11 63) rfl rfl (by kernel_rfl) hHeld (Or.inl ⟨by rfl, by rintro w' ⟨s0, s1, s2, s3, sM⟩; exact Mp.run_none (.tmp 24) (.tmp 25) rfl rfl sM keyF Try.underlying110 zero_int ⟨v, lo, hi⟩ rfl C2.out hs⟩) ?_
    refine Pt.pu 6 (some 20) (Pt.bm 11 127) (by kernel_rfl) ?_
    refine Pt.pu 7 (some 27) (Pt.bm 11 255) (by kernel_rfl) ?_
    refine Pt.pu 8 (some 28) (Pt.bm 11 511) (by kernel_rfl) ?_
    refine Pt.pu 9 (some 10) (Pt.bm 11 1023) (by kernel_rfl) ?_
    refine Pt.pu 10 (some 11) (Pt.bm 11 2047) (by kernel_rfl) ?_
    refine done_ (by kernel_rfl) ?_
    clear hHeld
    have hd1 : Below w4.heap.size w4 w4.drew := below_drew (Below.refl _ _)
    have n0 := Aside0.mk (below_step HB4.out hd1)
    have n1 := Aside0.mk (blk_drew BX.out)
    generalize w4.drew = w5 at n0 n1 ⊢
    clear HB4 BX BG4 M4 hd1
    have HB5 := n0
    have BX5 := n1
    clear n0 n1
    have BG5 := Aside0.mk (blk_below BG.out HB5.out)
    have M5 := Aside0.mk (M1.out.below HB5.out)
    have M5b := Aside0.mk (M2.out.below HB5.out)
    have hg1 : w5.cell? ⟨g, 1, none⟩ = some (.slice A s.forks.length c) := (blk_cell BG5.out 1).trans rfl
    have hg3 : w5.cell? ⟨g, 3, none⟩ = some (.bool s.full) := (blk_cell BG5.out 3).trans rfl
    have hf3 := blk_frozen BG5.out 3
    by_cases c3 : 2000 ≤ (s.forks.length : Int)
    ·rw [if_pos c3] at H2
     obtain ⟨rfl, rfl⟩ := Prod.mk.inj (Option.some.inj H2)
     have c3b : decide (2000 ≤ (s.forks.length : Int)) = true := decide_eq_true c3
     clear H2 c3
     go_wp2
     go_ret
     refine ⟨rfl, ?_, ?_, ?_⟩
     ·obtain ⟨hne, k1, k2, k3, k4, k5, k6⟩ := KS.out
      exact ⟨_, b1, b2, blk_put BG5.out 3 _ rfl, Kd.R_set (Kd.R_below HR.out HB5.out) BG5.out (by decide) 3 _, M5.out.far (p := ⟨g, 3, none⟩) (M5.out.ne_blk BG5.out) _, M5b.out.far (p := ⟨g, 3, none⟩) (M5b.out.ne_blk BG5.out) _, hne, k1, k2, k3, k4, k5, k6⟩
     ·exact (below_then HB.out HB.out.size HB5.out).setCell KS.out.2.2.2.2.1 _
     ·exact (Kept.of_below HB5.out ok).setCell (.inl KS.out.2.1) _
    ·rw [if_neg c3] at H2
     have c3b : decide (2000 ≤ (s.forks.length : Int)) = false := decide_eq_false c3
     obtain ⟨rfl, rfl⟩ := Prod.mk.inj (Option.some.inj H2)
     have C3 := Aside0.mk c3
     clear H2 c3
     go_wp2
     clear hg1 hg3 hf3 c3b
     have hne5 : some gb ≠ (Value.slice A s.forks.length c).ownBlock := fun e => by have := Kd.R_lt HR.out gb e.symm; have := HGB.out; omega
     have HNE := Aside0.mk hne5
     have hgg : gb ≠ g := fun e => by have := blk_lt BG.out; have := HGB.out; omega
     have HGG := Aside0.mk hgg
     clear hne5 hgg
     refine start_ (n := 13) (S := fun w' => w'.cell? ⟨g, 1, none⟩ = some (.slice A s.forks.length c) ∧ w'.cell? ⟨gb, 0, none⟩ = some (.int .i64 v) ∧ w'.cell? ⟨gb, 1, none⟩ = some (.int .i64 lo) ∧ w'.cell? ⟨gb, 2, none⟩ = some (.int .i64 hi)) (ds := [12]) (Pt.bm 13 0) (by kernel_rfl) rfl rfl ⟨(blk_cell BG5.out 1).trans rfl, (blk_cell BX5.out 0).trans rfl, (blk_cell BX5.out 1).trans rfl, (blk_cell BX5.out 2).trans rfl⟩ (fun hHeld => ?_)
     have hd1 : Below w5.heap.size w5 w5.drew := below_drew (Below.refl _ _)
     have n0 := Aside0.mk (below_step HB5.out hd1)
     have n1 := Aside0.mk (blk_drew BX5.out)
     generalize w5.drew = w6 at n0 n1 hHeld ⊢
     clear HB5 BX5 BG5 M5 M5b hd1
     have HB6 := n0
     have BX6 := n1
     clear n0 n1
     have BG6 := Aside0.mk (blk_below BG.out HB6.out)
     have M6 := Aside0.mk (M1.out.below HB6.out)
     have M6b := Aside0.mk (M2.out.below HB6.out)
     have HR6 := Aside0.mk (Kd.R_below HR.out HB6.out)
     refine Pt.pu 0 (some 41) (Pt.bm 13 1) (by kernel_rfl) ?_
     refine Pt.pu 1 (some 42) (Pt.bm 13 3) (by kernel_rfl) ?_
     refine Pt.pu 2 (some 43) (Pt.bm 13 7) (by kernel_rfl) ?_
     refine Pt.pu 3 (some 44) (Pt.bm 13 15) (by kernel_rfl) ?_
     refine Pt.pu 4 (some 45) (Pt.bm 13 31) (by kernel_rfl) ?_
     refine Pt.tk 5 (some 46) (Pt.bm 13 63) rfl rfl (by kernel_rfl) hHeld (Or.inl ⟨by rfl, by rintro w' ⟨s0, s1, s2, s3⟩; go_simp; with_reducible rfl⟩) ?_
     refine Pt.tk 6 (some 47) (Pt.bm 13 127) rfl rfl (by kernel_rfl) hHeld (Or.inl ⟨by rfl, by rintro w' ⟨s0, s1, s2, s3⟩; go_simp; with_reducible rfl⟩) ?_
     refine one_ (i := 7) (N := some 48) (Pt.bm 13 255) rfl rfl (by kernel_rfl) (by decide) (fun K hK => ?_)
     refine value_ (w1 := ?_) (v := ?_) (by rfl) rfl ?_ ?_
     rotate_left 2
     ·go_simp
      constructor
      ·rfl
      ·rfl
     refine hK.out _ _ ⟨(blk_cell (blk_alloc BG6.out _) 1).trans rfl, (blk_cell (blk_alloc BX6.out _) 0).trans rfl, (blk_cell (blk_alloc BX6.out _) 1).trans rfl, (blk_cell (blk_alloc BX6.out _) 2).trans rfl⟩ (fun hHeld => ?_)
     clear hK K
     refine norm_ (a' := ?_) ?_ ?_
     rotate_left
     ·show Act.put _ (some 48) _ = _
      simp only [Act.put, List.setIfInBounds_toArray, List.set_cons_zero, List.set_cons_succ, i64_w, i32_w]
      rfl
     refine one_ (i := 8) (N := some 49) (Pt.bm 13 511) rfl rfl (by kernel_rfl) (by decide) (fun K hK => ?_)
     refine Kd.R_append_step k71 (w0 := w0) w0.heap.size (by rfl) (.tmp 46) (.tmp 48) 23 71 (.agg #[.int .i64 0, .int .i64 0, .int .i64 0]) 24 rfl Try.underlying23 info71 rfl (by decide) (by omega) (.slice A s.forks.length c) s.forks (⟨v, lo, hi⟩ : S71) [.int .i64 v, .int .i64 lo, .int .i64 hi] ok (fun _ => False) rfl rfl (k71_mkM _ _ _ _) (fun _ hk => hk.elim) (fun k hk => HF.out k (Nat.le_trans HB6.out.size hk)) HR6.out (below_then HB.out HB.out.size HB6.out) (Nat.le_trans HB.out.size HB6.out.size) (by have := C3.out; omega) ?_
     intro v1 w7 ho7 hb7 hg7 _
     obtain ⟨A1, cc1, rfl⟩ := Kd.R_slice ho7
     obtain ⟨y, hy⟩ : ∃ y : List S71, y = s.forks ++ [⟨v, lo, hi⟩] := ⟨_, rfl⟩
     have hyl : y.length = s.forks.length + 1 := by rw [hy]; simp
     rw [← hy] at ho7 ⊢
     have BG7 := Aside0.mk (blk_grown BG6.out hg7 (Kd.R_ne HR6.out BG6.out (by decide)))
     have BX7 := Aside0.mk (blk_grown BX6.out hg7 HNE.out)
     have M7 := Aside0.mk (M6.out.grown hg7 (M6.out.ne_row HR6.out))
     have M7b := Aside0.mk (M6b.out.grown hg7 (M6b.out.ne_row HR6.out))
     have HO7 := Aside0.mk ho7
     have HB7 := Aside0.mk hb7
     have HK7 := Aside0.mk (Kept.of_grown hg7 (Kept.of_below HB6.out ok) (fun k hk => .inl (HR.out.1 k hk)))
     have HY := Aside0.mk hy
     have HYL := Aside0.mk hyl
     clear ho7 hb7 hg7 BG6 BX6 M6 M6b hy hyl HR6 HB6
     refine hK.out _ _ ⟨(blk_cell BG7.out 1).trans rfl, (blk_cell BX7.out 0).trans rfl, (blk_cell BX7.out 1).trans rfl, (blk_cell BX7.out 2).trans rfl⟩ (fun hHeld => ?_)
     clear hK K
     refine norm_ (a' := ?_) ?_ ?_
     rotate_left
     ·show Act.put _ (some 49) _ = _
      simp only [Act.put, List.setIfInBounds_toArray, List.set_cons_zero, List.set_cons_succ, i64_w, i32_w]
      rfl
     refine Pt.pu 9 (some 50) (Pt.bm 13 1023) (by kernel_rfl) ?_
     refine Pt.pu 10 (some 51) (Pt.bm 13 2047) (by kernel_rfl) ?_
     refine Pt.pu 11 (some 52) (Pt.bm 13 4095) (by kernel_rfl) ?_
     refine last_ (i := 12) (N := none) (Pt.bm 13 8191) rfl rfl (by kernel_rfl) (by decide) (fun K hK => ?_)
     have hs1 : w7.cell? ⟨g, 1, none⟩ = some (.slice A s.forks.length c) := (blk_cell BG7.out 1).trans rfl
     have hfs1 := blk_frozen BG7.out 1
     refine skip_ (w1 := ?_) (by rfl) rfl ?_ ?_
     rotate_left
     ·go_simp
      rfl
     refine hK.out _ _ ?_
     clear hK K hs1 hfs1
     refine done_ (by kernel_rfl) ?_
     have n0 : Aside0 ((w7.setCell ⟨g, 1, none⟩ (.slice A1 y.length cc1)).heap[g]? = some (.cells #[.int .i64 s.vars, .slice A1 y.length cc1, .map (some b1), .bool s.full, .map (some b2)] 113 (0, 0))) := ⟨blk_put BG7.out 1 _ rfl⟩
     have n1 : Aside0 ((w7.setCell ⟨g, 1, none⟩ (.slice A1 y.length cc1)).heap[gb]? = some (.cells #[.int .i64 v, .int .i64 lo, .int .i64 hi] 71 (0, 0))) := ⟨blk_far BX7.out HGG.out _⟩
     have n2 := Aside0.mk (M7.out.far (p := ⟨g, 1, none⟩) (M7.out.ne_blk BG7.out) (.slice A1 y.length cc1))
     have n3 := Aside0.mk (M7b.out.far (p := ⟨g, 1, none⟩) (M7b.out.ne_blk BG7.out) (.slice A1 y.length cc1))
     have n4 := Aside0.mk (Kd.R_set HO7.out BG7.out (by decide) 1 (.slice A1 y.length cc1))
     have n5 := Aside0.mk (HB7.out.setCell (p := ⟨g, 1, none⟩) KS.out.2.2.2.2.1 (.slice A1 y.length cc1))
     have n6 := Aside0.mk (HK7.out.setCell (p := ⟨g, 1, none⟩) (.inl KS.out.2.1) (.slice A1 y.length cc1))
     generalize (w7.setCell ⟨g, 1, none⟩ (.slice A1 y.length cc1)) = w8 at n0 n1 n2 n3 n4 n5 n6 ⊢
     clear BG7 BX7 M7 M7b HO7 HB7 HK7
     have BG8 := Aside0.mk (blk_drew n0.out)
     have BX8 := Aside0.mk (blk_drew n1.out)
     have M8 := Aside0.mk n2.out.drew
     have M8b := Aside0.mk n3.out.drew
     have HO8 := Aside0.mk (Kd.R_drew n4.out)
     have HB8 := Aside0.mk (below_drew n5.out)
     have HK8 := Aside0.mk n6.out.drew
     have hlw : wrap64 ((y.length : Int) + 1) = (s.forks.length : Int) + 2 := by have := C3.out; have := HYL.out; unfold wrap64; omega
     have hlw' : (IntKind.i64.wrap ((y.length : Int) + 1)) = (s.forks.length : Int) + 2 := (i64_w _).trans hlw
     clear n0 n1 n2 n3 n4 n5 n6
     try go_wp2
     refine start_ (n := 13) (S := fun w' => w'.cell? ⟨g, 1, none⟩ = some (.slice A1 y.length cc1) ∧ w'.cell? ⟨g, 2, none⟩ = some (.map (some b1)) ∧ w'.cell? ⟨gb, 0, none⟩ = some (.int .i64 v) ∧ w'.cell? ⟨gb, 1, none⟩ = some (.int .i64 lo) ∧ w'.cell? ⟨gb, 2, none⟩ = some (.int .i64 hi)) (ds := [12]) (Pt.bm 13 0) (by kernel_rfl) rfl rfl ⟨(blk_cell BG8.out 1).trans rfl, (blk_cell BG8.out 2).trans rfl, (blk_cell BX8.out 0).trans rfl, (blk_cell BX8.out 1).trans rfl, (blk_cell BX8.out 2).trans rfl⟩ (fun hHeld => ?_)
     generalize w8.drew = w9 at BG8 BX8 M8 M8b HO8 HB8 HK8 hHeld ⊢
     refine Pt.pu 0 (some 53) (Pt.bm 13 1) (by kernel_rfl) ?_
     refine Pt.pu 1 (some 54) (Pt.bm 13 3) (by kernel_rfl) ?_
     refine Pt.pu 2 (some 55) (Pt.bm 13 7) (by kernel_rfl) ?_
     refine Pt.tk 3 (some 56) (Pt.bm 13 15) rfl rfl (by kernel_rfl) hHeld (Or.inl ⟨by rfl, by rintro w' ⟨s0, s1, s2, s3, s4⟩; go_simp; with_reducible rfl⟩) ?_
     refine Pt.tk 4 (some 57) (Pt.bm 13 31) rfl rfl (by kernel_rfl) hHeld (Or.inl ⟨by rfl, by rintro w' ⟨s0, s1, s2, s3, s4⟩; go_simp; with_reducible rfl⟩) ?_
     refine Pt.pu 5 (some 58) (Pt.bm 13 63) (by kernel_rfl) ?_
     refine Pt.pu 6 (some 59) (Pt.bm 13 127) (by kernel_rfl) ?_
     refine Pt.pu 7 (some 60) (Pt.bm 13 255) (by kernel_rfl) ?_
     refine Pt.pu 8 (some 61) (Pt.bm 13 511) (by kernel_rfl) ?_
     refine Pt.tk 9 (some 62) (Pt.bm 13 1023) rfl rfl (by kernel_rfl) hHeld (Or.inl ⟨by rfl, by rintro w' ⟨s0, s1, s2, s3, s4⟩; go_simp; with_reducible rfl⟩) ?_
     refine Pt.pu 10 (some 63) (Pt.bm 13 2047) (by kernel_rfl) ?_
     refine Pt.pu 11 (some 64) (Pt.bm 13 4095) (by kernel_rfl) ?_
     refine last_ (i := 12) (N := none) (Pt.bm 13 8191) rfl rfl (by kernel_rfl) (by decide) (fun K hK => ?_)
     refine Mp.store_step (by rfl) rfl (.tmp 56) (.tmp 57) (.tmp 64) rfl rfl M8.out keyF Try.underlying110 ⟨v, lo, hi⟩ rfl C2.out ((s.forks.length : Int) + 2) ?hv ?_
     case hv =>
      show Value.int .i64 _ = _
      first | rw [hlw] | rw [hlw'] | simp [hlw, hlw']
     intro w10 hM10 hg10 hz10
     refine hK.out _ _ ?_
     clear hK K hHeld
     refine done_ (by kernel_rfl) ?_
     have BG10 := Aside0.mk (blk_grown BG8.out hg10 (by simpa using (M8.out.ne_blk BG8.out).symm))
     have BX10 := Aside0.mk (blk_grown BX8.out hg10 (by simpa using (M8.out.ne_blk BX8.out).symm))
     have M10 := Aside0.mk hM10
     have M10b := Aside0.mk (M8b.out.grown hg10 (by simpa using KS.out.1.symm))
     have HO10 := Aside0.mk (Kd.R_map HO8.out M8.out hg10)
     have HB10 := Aside0.mk (pw_below_grown HB8.out (some b1) (Nat.le_trans (by exact HB.out.size) (by exact HK8.out.1)) hg10 (fun k hk => by cases hk; exact KS.out.2.2.2.2.2.1))
     have HK10 := Aside0.mk (Kept.of_grown hg10 HK8.out (fun k hk => .inl (by cases hk; exact KS.out.2.2.1)))
     clear hM10 hg10 hz10 BG8 BX8 M8 M8b HO8 HB8 HK8
     try go_wp2
     refine start_ (n := 7) (S := fun w' => w'.cell? ⟨g, 2, none⟩ = some (.map (some b1)) ∧ w'.cell? ⟨gb, 0, none⟩ = some (.int .i64 v) ∧ w'.cell? ⟨gb, 1, none⟩ = some (.int .i64 lo) ∧ w'.cell? ⟨gb, 2, none⟩ = some (.int .i64 hi) ∧ Mp.Is ekF okF (Value.int .i64) w' b1 (fun y' => if y' = ⟨v, lo, hi⟩ then some ((s.forks.length : Int) + 2) else s.seen y')) (ds := []) (Pt.bm 7 0) (by kernel_rfl) rfl rfl ⟨(blk_cell BG10.out 2).trans rfl, (blk_cell BX10.out 0).trans rfl, (blk_cell BX10.out 1).trans rfl, (blk_cell BX10.out 2).trans rfl, M10.out.drew⟩ (fun hHeld => ?_)
     refine Pt.pu 0 (some 65) (Pt.bm 7 1) (by kernel_rfl) ?_
     refine Pt.pu 1 (some 66) (Pt.bm 7 3) (by kernel_rfl) ?_
     refine Pt.pu 2 (some 67) (Pt.bm 7 7) (by kernel_rfl) ?_
     refine Pt.tk 3 (some 68) (Pt.bm 7 15) rfl rfl (by kernel_rfl) hHeld (Or.inl ⟨by rfl, by rintro w' ⟨s0, s1, s2, s3, sM⟩; go_simp; with_reducible rfl⟩) ?_
     refine Pt.tk 4 (some 69) (Pt.bm 7 31) rfl rfl (by kernel_rfl) hHeld (Or.inl ⟨by rfl, by rintro w' ⟨s0, s1, s2, s3, sM⟩; go_simp; with_reducible rfl⟩) ?_
     refine Pt.tk 5 (some 70) (Pt.bm 7 63) rfl rfl (by kernel_rfl) hHeld (Or.inl ⟨by rfl, by rintro w' ⟨s0, s1, s2, s3, sM⟩; exact Mp.run_at (.tmp 68) (.tmp 69) rfl rfl sM keyF Try.underlying110 zero_int ⟨v, lo, hi⟩ rfl C2.out (if_pos rfl)⟩) ?_
     refine Pt.pu 6 (some 8) (Pt.bm 7 127) (by kernel_rfl) ?_
     refine done_ (by kernel_rfl) ?_
     go_wp2
     go_ret
     obtain ⟨hne, k1, k2, k3, k4, k5, k6⟩ := KS.out
     rw [← HY.out]
     exact ⟨rfl, ⟨_, b1, b2, blk_drew BG10.out, Kd.R_drew HO10.out, M10.out.drew, M10b.out.drew, hne, k1, k2, k3, k4, k5, k6⟩, below_drew HB10.out, HK10.out.drew⟩
  ·rw [if_neg c2] at h
   cases h

/-! ### impl_bit: function 108 -/
def impl_bit.f (a0 : Bool) : Option (Int) := if a0 = true then (some 1) else (some 0)
set_option maxHeartbeats 8000000 in
set_option maxRecDepth 100000 in
theorem impl_bit.calls (a0 : Bool) (r : Int) (w : World) (h : impl_bit.f a0 = some r) :
  Calls Try.prog 108 #[.bool a0] w fun e w' => e = .returned (.int .i64 r) ∧ Drawn0 w w' := by
 have H : (if a0 = true then (some 1) else (some 0)) = some r := h
 clear h
 by_cases c2 : a0 = true
 ·subst c2
  have H1 : (some 1) = some r := by rw [if_pos rfl] at H; exact H
  clear H
  have H := H1
  clear H1
  obtain rfl := Option.some.inj H
  go_enter Try.func108, Try.ntmps108
  go_wp2
  go_ret
  exact ⟨by first | rfl | (simp; done) | (simp [*]; done), by repeat (first | exact Drawn0.refl _ | apply Drawn0.step)⟩
 ·replace c2 := Bool.eq_false_iff.mpr c2
  subst c2
  have H1 : (some 0) = some r := by rw [if_neg (show ¬ (false = true) by decide)] at H; exact H
  clear H
  have H := H1
  clear H1
  obtain rfl := Option.some.inj H
  go_enter Try.func108, Try.ntmps108
  go_wp2
  go_ret
  exact ⟨by first | rfl | (simp; done) | (simp [*]; done), by repeat (first | exact Drawn0.refl _ | apply Drawn0.step)⟩

/-! ### slices_Clip_int_int: function 109 -/
set_option maxHeartbeats 800000 in
theorem slices_Clip_int_int.calls (A : Option Addr) (n c : Nat) (w : World) (hc : n ≤ c) :
  Calls Try.prog 109 #[.slice A n c] w fun e w' => e = .returned (.slice A n n) ∧ w' = w := by
 have hu := Try.underlying49
 obtain ⟨i0q, hi0q, _, hszq, _⟩ := info_parts info3
 have hcut := Cl.cut_clip (P := Try.prog) 49 3 .i64 .i64 Try.underlying49 hi0q A n c hc
 go_enter Try.func109, Try.ntmps109
 go_wp2
 go_ret
 exact ⟨rfl, rfl⟩

/-! ### impl_forking_made: function 77 -/
def impl_forking_made.f : Nat → (List Int → Option Bool) → FS → List Int → Option (FS × Int)
 | 0, _, _, _ => none
 | k + 1, is, s, bits => if s.full = true then some (s, 0)
  else if (bits.length : Int) = s.vars then (is bits).bind fun b => (impl_bit.f b).bind fun r => some (s, r)
  else if bits.length ≤ 1000000 then (impl_forking_made.f k is s (bits ++ [0])).bind fun p1 => (impl_forking_made.f k is p1.1 (bits ++ [1])).bind fun p2 => impl_forking_fork.f p2.1 (bits.length : Int) p1.2 p2.2 else none
theorem impl_forking_made.le {is1 is2 : List Int → Option Bool} (h : ∀ bs, LeO (is1 bs) (is2 bs)) : ∀ (k : Nat) (s : FS) (bits : List Int), LeO (impl_forking_made.f k is1 s bits) (impl_forking_made.f (k + 1) is2 s bits)
 | 0 => fun _ _ r h => by simp [impl_forking_made.f] at h
 | k + 1 => fun s bits => by
  have ih := impl_forking_made.le h k
  rw [impl_forking_made.f, impl_forking_made.f]
  exact LeO.ite (LeO.refl _) (LeO.ite (LeO.bind (h _) (fun _ => LeO.refl _)) (LeO.ite (LeO.bind (ih _ _) (fun _ => LeO.bind (ih _ _) (fun _ => LeO.refl _))) (LeO.refl _)))
set_option maxHeartbeats 16000000 in
set_option maxRecDepth 100000 in
theorem impl_forking_made.calls : ∀ (k : Nat) (is : List Int → Option Bool) (gv : Nat) (lb : Array Value) (eg : ∀ args w, (callFunc gv args).run Try.prog w = .ok (.enter gv args) w) (s s' : FS) (bits : List Int) (r : Int) (A : Option Addr) (c : Nat) (ok : Nat → Prop) (g : Nat) (w0 w : World) (_ : Below w0.heap.size w0 w) (_ : IsF w w0.heap.size ok g s) (_ : ∀ k, w.heap.size ≤ k → ok k)
  (_ : ∀ W, Kept w W ok → Kd.C (Kd.int .i64) W A bits.length bits) (_ : bits.length ≤ c)
  (_ : ∀ (bs : List Int) (b : Bool), is bs = some b → ∀ W, Kept w W ok → ∀ A c, Kd.C (Kd.int .i64) W A bs.length bs → bs.length ≤ c → Calls Try.prog gv (#[.slice A bs.length c] ++ lb) W fun e w' => e = .returned (.bool b) ∧ Below W.heap.size W w')
  (_ : impl_forking_made.f k is s bits = some (s', r)),
  Calls Try.prog 77 #[.pointer (some ⟨g, 0, none⟩), .slice A bits.length c, .func (.func gv) #[] lb] w fun e w' => e = .returned (.int .i64 r) ∧ IsF w' w0.heap.size ok g s' ∧ Below w0.heap.size w0 w' ∧ Kept w w' ok
 | 0 => fun _ _ _ _ _ _ _ _ _ _ _ _ _ _ _ _ _ _ _ _ h => by simp [impl_forking_made.f] at h
 | k + 1 => fun is gv lb eg s s' bits r A c ok g w0 w hB hI hf hr hc hv h => by
  have IH := Aside0.mk (impl_forking_made.calls k)
  have hu25 := Try.underlying25
  have hu113 := Try.underlying113
  have hu49 := Try.underlying49
  have HI := Aside0.mk hI
  have HB := Aside0.mk hB
  have HF := Aside0.mk hf
  have HR := Aside0.mk hr
  have HC := Aside0.mk hc
  have HV := Aside0.mk hv
  rw [impl_forking_made.f] at h
  obtain ⟨u, b1, b2, hg, _⟩ := hI
  have BG := Aside0.mk hg
  have hg0 : w.cell? ⟨g, 0, none⟩ = some (.int .i64 s.vars) := (blk_cell hg 0).trans rfl
  have hg3 : w.cell? ⟨g, 3, none⟩ = some (.bool s.full) := (blk_cell hg 3).trans rfl
  clear hB hf hr hc hv hg
  cases hfl : s.full with
  | true =>
   rw [if_pos hfl] at h
   simp only [Option.some.injEq, Prod.mk.injEq] at h
   obtain ⟨rfl, rfl⟩ := h
   rw [hfl] at hg3
   go_enter Try.func77, Try.ntmps77
   go_wp2
   go_ret
   exact ⟨rfl, HI.out, HB.out, Kept.refl _ _⟩
  | false =>
  rw [if_neg (by rw [hfl]; decide)] at h
  rw [hfl] at hg3
  by_cases c1 : (bits.length : Int) = s.vars
  ·rw [if_pos c1] at h
   obtain ⟨b, hb, h2⟩ := Option.bind_eq_some_iff.mp h
   obtain ⟨r2, hr2, h3⟩ := Option.bind_eq_some_iff.mp h2
   simp only [Option.some.injEq, Prod.mk.injEq] at h3
   obtain ⟨rfl, rfl⟩ := h3
   have HIS := Aside0.mk hb
   have HBT := Aside0.mk hr2
   have e1 : ((bits.length : Int) == s.vars) = true := beq_iff_eq.mpr c1
   clear h h2 hb hr2 c1
   go_enter Try.func77, Try.ntmps77
   go_wp2_with (first | (go_at_fn gv; refine (HV.out bits b HIS.out w (Kept.refl _ _) A c (HR.out w (Kept.refl _ _)) HC.out).mono ?_; rintro e w5 ⟨rfl, hb⟩; have HB5 := Aside0.mk hb; clear hb) | (go_at_call 108; (with_reducible refine (impl_bit.calls b r2 _ HBT.out).mono ?_); rintro e w6 ⟨rfl, hb⟩; have HB6 := Aside0.mk (below_step HB5.out hb.below); clear hb))
   go_ret
   exact ⟨rfl, HI.out.below HB6.out, below_then HB.out HB.out.size HB6.out, Kept.of_below HB6.out _⟩
  rw [if_neg c1] at h
  have e1 : ((bits.length : Int) == s.vars) = false := beq_eq_false_iff_ne.mpr c1
  clear c1
  by_cases c2 : bits.length ≤ 1000000
  ·rw [if_pos c2] at h
   obtain ⟨⟨s1, lo⟩, hp1, h2⟩ := Option.bind_eq_some_iff.mp h
   obtain ⟨⟨s2, hi⟩, hp2, h3⟩ := Option.bind_eq_some_iff.mp h2
   simp only at hp2 h3
   have P1 := Aside0.mk hp1
   have P2 := Aside0.mk hp2
   have H := Aside0.mk h3
   have C2 := Aside0.mk c2
   clear h h2 h3 hp1 hp2 c2
   go_enter Try.func77, Try.ntmps77
   go_wp2_with (first | (go_at_call 109; (with_reducible refine (slices_Clip_int_int.calls A bits.length c w HC.out).mono ?_); rintro e w_ ⟨rfl, hw_⟩; replace hw_ := hw_.symm; subst hw_) | ((with_reducible refine gate_builtin (b := .append) (xs := #[.tmp 27, .tmp 28]) rfl ?_); at_builtin; refine Cl.append rfl (.tmp 27) (.tmp 28) 49 3 rfl Try.underlying49 info3 (by decide) A bits 0 rfl (by first | (go_simp; done) | (go_simp; rfl)) (HR.out w (Kept.refl _ _)) (by have := C2.out; omega) ?_; intro v5 w5 hR_ hb_; obtain ⟨y5, hy_⟩ : ∃ y, bits ++ [0] = y := ⟨_, rfl⟩; rw [hy_] at hR_; have Y5 := Aside0.mk hy_; clear hy_; obtain ⟨A5, c5, rfl⟩ := Kd.R_slice hR_; have RB5 := Aside0.mk hR_; have HW5 := Aside0.mk hb_; clear hR_ hb_) | (go_at_call 77; have KN5 := Aside0.mk ((Kept.refl w ok).below HW5.out); have OL5 : Aside0 (∀ k_, (Value.slice A5 y5.length c5).ownBlock = some k_ → k_ < w5.heap.size ∧ w.heap.size ≤ k_) := ⟨fun k_ h_ => ⟨Kd.R_lt RB5.out k_ h_, Kd.R_base RB5.out k_ h_⟩⟩; have IN5 : Aside0 (IsF w5 w0.heap.size (fun k_ => ok k_ ∧ some k_ ≠ (Value.slice A5 y5.length c5).ownBlock) g s) := ⟨IsF.mono ((HI.out).bound.step (fun k_ hk_ _ => HW5.out.block k_ hk_.2.2)) (fun k_ hk_ => ⟨hk_.1, fun e_ => by have := OL5.out k_ e_.symm; have := hk_.2.2; omega⟩)⟩; have FN5 : Aside0 (∀ k_, w5.heap.size ≤ k_ → ok k_ ∧ some k_ ≠ (Value.slice A5 y5.length c5).ownBlock) := ⟨fun k_ h_ => ⟨HF.out k_ (Nat.le_trans KN5.out.1 h_), fun e_ => by have := OL5.out k_ e_.symm; omega⟩⟩; have BN5 := Aside0.mk (below_then (HB.out) (HB.out).size HW5.out); (with_reducible refine (IH.out is gv lb eg s s1 y5 lo A5 c5 (fun k_ => ok k_ ∧ some k_ ≠ (Value.slice A5 y5.length c5).ownBlock) g w0 _ BN5.out IN5.out FN5.out (Kd.C_kept_own (Kd.R_tight rfl RB5.out) (fun k_ h_ h2_ => absurd h_ h2_.2)) (Kd.R_reads' RB5.out).2.1 (fun bs b_ hb_ W_ hk_ => HV.out bs b_ hb_ W_ (KN5.out.then_ hk_ (fun _ h_ => .inl h_.1))) (by rw [← Y5.out]; exact P1.out)).mono ?_); rintro e w6 ⟨rfl, hi_, hb_, hk_⟩; have I6 := Aside0.mk (hi_.mono (fun _ h_ => h_.1)); have BL6 := Aside0.mk hb_; have K6 := Aside0.mk (KN5.out.then_ hk_ (fun _ h_ => .inl h_.1)); clear hi_ hb_ hk_) | (go_at_call 109; (with_reducible refine (slices_Clip_int_int.calls A bits.length c w6 HC.out).mono ?_); rintro e w_ ⟨rfl, hw_⟩; replace hw_ := hw_.symm; subst hw_) | ((with_reducible refine gate_builtin (b := .append) (xs := #[.tmp 34, .tmp 35]) rfl ?_); at_builtin; refine Cl.append rfl (.tmp 34) (.tmp 35) 49 3 rfl Try.underlying49 info3 (by decide) A bits 1 rfl (by first | (go_simp; done) | (go_simp; rfl)) (HR.out w6 K6.out) (by have := C2.out; omega) ?_; intro v7 w7 hR_ hb_; obtain ⟨y7, hy_⟩ : ∃ y, bits ++ [1] = y := ⟨_, rfl⟩; rw [hy_] at hR_; have Y7 := Aside0.mk hy_; clear hy_; obtain ⟨A7, c7, rfl⟩ := Kd.R_slice hR_; have RB7 := Aside0.mk hR_; have HW7 := Aside0.mk hb_; clear hR_ hb_) | (go_at_call 77; have KN7 := Aside0.mk ((K6.out).below HW7.out); have OL7 : Aside0 (∀ k_, (Value.slice A7 y7.length c7).ownBlock = some k_ → k_ < w7.heap.size ∧ w6.heap.size ≤ k_) := ⟨fun k_ h_ => ⟨Kd.R_lt RB7.out k_ h_, Kd.R_base RB7.out k_ h_⟩⟩; have IN7 : Aside0 (IsF w7 w0.heap.size (fun k_ => ok k_ ∧ some k_ ≠ (Value.slice A7 y7.length c7).ownBlock) g s1) := ⟨IsF.mono ((I6.out).bound.step (fun k_ hk_ _ => HW7.out.block k_ hk_.2.2)) (fun k_ hk_ => ⟨hk_.1, fun e_ => by have := OL7.out k_ e_.symm; have := hk_.2.2; omega⟩)⟩; have FN7 : Aside0 (∀ k_, w7.heap.size ≤ k_ → ok k_ ∧ some k_ ≠ (Value.slice A7 y7.length c7).ownBlock) := ⟨fun k_ h_ => ⟨HF.out k_ (Nat.le_trans KN7.out.1 h_), fun e_ => by have := OL7.out k_ e_.symm; omega⟩⟩; have BN7 := Aside0.mk (below_then (BL6.out) (BL6.out).size HW7.out); (with_reducible refine (IH.out is gv lb eg s1 s2 y7 hi A7 c7 (fun k_ => ok k_ ∧ some k_ ≠ (Value.slice A7 y7.length c7).ownBlock) g w0 _ BN7.out IN7.out FN7.out (Kd.C_kept_own (Kd.R_tight rfl RB7.out) (fun k_ h_ h2_ => absurd h_ h2_.2)) (Kd.R_reads' RB7.out).2.1 (fun bs b_ hb_ W_ hk_ => HV.out bs b_ hb_ W_ (KN7.out.then_ hk_ (fun _ h_ => .inl h_.1))) (by rw [← Y7.out]; exact P2.out)).mono ?_); rintro e w8 ⟨rfl, hi_, hb_, hk_⟩; have I8 := Aside0.mk (hi_.mono (fun _ h_ => h_.1)); have BL8 := Aside0.mk hb_; have K8 := Aside0.mk (KN7.out.then_ hk_ (fun _ h_ => .inl h_.1)); clear hi_ hb_ hk_) | (go_at_call 57; have FK8 : Aside0 (∀ k_, w8.heap.size ≤ k_ → ok k_) := ⟨fun k_ h_ => HF.out k_ (Nat.le_trans K8.out.1 h_)⟩; (with_reducible refine (impl_forking_fork.calls s2 s' (bits.length : Int) lo hi r ok g w0 _ BL8.out I8.out FK8.out H.out).mono ?_); rintro e w9 ⟨rfl, hi_, hb_, hk_⟩; have I9 := Aside0.mk hi_; have BL9 := Aside0.mk hb_; have K9 := Aside0.mk (K8.out.then_ hk_ (fun _ h_ => .inl h_)); clear hi_ hb_ hk_))
   go_ret
   exact ⟨rfl, I9.out, BL9.out, K9.out⟩
  ·rw [if_neg c2] at h
   cases h

/-! ### impl_edgeOf: function 79 -/
def impl_edgeOf.f (l0 : List Int) (a1 : Int) : Option (Int) := if 0 ≤ (wrap64 (Int.tdiv a1 2)) then (if (wrap64 (Int.tdiv a1 2)) < (l0.length : Int) then (some (Go.bits .xor .i64 (rd l0 (wrap64 (Int.tdiv a1 2))) (Go.bits .and .i64 a1 1))) else (none)) else (none)
set_option maxHeartbeats 8000000 in
set_option maxRecDepth 100000 in
theorem impl_edgeOf.calls (A0 : Option Addr) (c0 : Nat) (l0 : List Int) (a1 : Int) (r : Int) (w : World) (hr0 : Kd.C (Kd.int .i64) w A0 l0.length l0) (hc0 : l0.length ≤ c0) (h : impl_edgeOf.f l0 a1 = some r) :
  Calls Try.prog 79 #[.slice A0 l0.length c0, .int .i64 a1] w fun e w' => e = .returned (.int .i64 r) ∧ Drawn0 w w' := by
 have HR0 := Aside0.mk hr0
 have HC0 := Aside0.mk hc0
 clear hr0 hc0
 have H : (if 0 ≤ (wrap64 (Int.tdiv a1 2)) then (if (wrap64 (Int.tdiv a1 2)) < (l0.length : Int) then (some (Go.bits .xor .i64 (rd l0 (wrap64 (Int.tdiv a1 2))) (Go.bits .and .i64 a1 1))) else (none)) else (none)) = some r := h
 clear h
 obtain ⟨ji3, hji3⟩ : ∃ j_ : Int, (wrap64 (Int.tdiv a1 2)) = j_ := ⟨_, rfl⟩
 replace H : (if 0 ≤ (ji3) then (if (ji3) < (l0.length : Int) then (some (Go.bits .xor .i64 (rd l0 (ji3)) (Go.bits .and .i64 a1 1))) else (none)) else (none)) = some r := by first | (rw [hji3] at H; exact H) | (simp only [hji3] at H ⊢; exact H)
 have hji3w : (IntKind.i64.wrap (Int.tdiv a1 2)) = ji3 := (i64_w _).trans hji3
 by_cases c4 : 0 ≤ (ji3)
 ·rw [if_pos c4] at H
  have c4b0 : decide (0 ≤ (ji3)) = true := decide_eq_true c4
  clear c4
  by_cases c5 : (ji3) < (l0.length : Int)
  ·rw [if_pos c5] at H
   have c5b0 : decide ((ji3) < (l0.length : Int)) = true := decide_eq_true c5
   clear c5
   obtain rfl := Option.some.inj H
   have p207 : 0 ≤ ((ji3) : Int) := oda
   have q207 : (ji3) < (l0.length : Int) := oda
   obtain ⟨ad207, e207, hx207_0⟩ := Kd.at_int HR0.out (ji3) p207 q207
   cases e207
   replace p207 := eq_true p207
   replace q207 := eq_true q207
   go_enter Try.func79, Try.ntmps79
   go_wp2
   go_ret
   exact ⟨by first | rfl | (simp; done) | (simp only [← hji3] <;> (first | rfl | simp)) | (simp [*]; done), by repeat (first | exact Drawn0.refl _ | apply Drawn0.step)⟩
  ·rw [if_neg c5] at H
   exact absurd H (by simp)
 ·rw [if_neg c4] at H
  exact absurd H (by simp)

/-! ### impl_Circuit_values: function 80 -/
def impl_Circuit_values.l0 : Nat → List Int → List (S121) → Int → Int → Option (List Int)
 | 0, _, _, _, _ => none
 | k + 1, x5, x12, x13, x14 => if x14 < x13 then (if 0 ≤ x14 then (if x14 < (x12.length : Int) then ((impl_edgeOf.f x5 ((rd_T121 x12 x14).f0)).bind fun t217 => ((impl_edgeOf.f x5 ((rd_T121 x12 x14).f1)).bind fun t218 => (if x5.length < 17592186044416 then (impl_Circuit_values.l0 k (x5 ++ [Go.bits .and .i64 t217 t218]) x12 x13 (wrap64 (x14 + 1))) else (none)))) else (none)) else (none)) else (some x5)
def impl_Circuit_values.f (k : Nat) (a0_0 : Int) (l0_1 : List (S121)) (l1 : List Int) : Option (List Int) := (some (([0] : List Int) : List Int)).bind fun y209 => (if y209.length + l1.length < 17592186044416 then (impl_Circuit_values.l0 k (y209 ++ l1) l0_1 (l0_1.length : Int) 0) else (none))
theorem impl_Circuit_values.mono_l : ∀ k, (∀ y0 y1 y2 y3, LeO (impl_Circuit_values.l0 k y0 y1 y2 y3) (impl_Circuit_values.l0 (k + 1) y0 y1 y2 y3))
 | 0 => fun _ _ _ _ r h => by simp [impl_Circuit_values.l0] at h
 | k + 1 => by
  have ih0 := impl_Circuit_values.mono_l k
  ·intro y0 y1 y2 y3
   unfold impl_Circuit_values.l0
   repeat' first
   | (with_reducible exact ih0 _ _ _ _)
   | (with_reducible exact LeO.refl _)
   | (with_reducible exact LeO.none _)
   | (with_reducible refine LeO.ite ?_ ?_)
   | (with_reducible refine LeO.bind ?_ (fun _ => ?_))
   | exact ih0 _ _ _ _
   | exact LeO.none _
   | refine LeO.ite ?_ ?_
   | refine LeO.bind ?_ (fun _ => ?_)
theorem impl_Circuit_values.mono : ∀ a0 a1 a2 k, LeO (impl_Circuit_values.f k a0 a1 a2) (impl_Circuit_values.f (k + 1) a0 a1 a2) := by
 intro a0 a1 a2 k
 have ih0 := impl_Circuit_values.mono_l k
 unfold impl_Circuit_values.f
 repeat' first
   | (with_reducible exact ih0 _ _ _ _)
   | (with_reducible exact LeO.refl _)
   | (with_reducible exact LeO.none _)
   | (with_reducible refine LeO.ite ?_ ?_)
   | (with_reducible refine LeO.bind ?_ (fun _ => ?_))
   | exact ih0 _ _ _ _
   | exact LeO.none _
   | refine LeO.ite ?_ ?_
   | refine LeO.bind ?_ (fun _ => ?_)
def impl_Circuit_values.T5 : Bool × List (List Nat × List Nat) := (true, [([], []), ([], []), ([], []), ([2], [2]), ([1, 3], [1, 3]), ([], []), ([], []), ([6], [6]), ([5, 7, 4], [5, 7]), ([4, 8], [4, 8]), ([9], [9]), ([0, 10, 8], [0, 10]), ([11, 11, 0, 1, 2, 3, 4, 5, 6, 7, 8, 9, 10, 11], [0, 1, 5, 11])])
def impl_Circuit_values.B5 : List Nat := [0, 0, 0, 4, 14, 0, 0, 64, 254, 510, 1022, 2047, 4095]
theorem impl_Circuit_values.tab5 : rtab .any (opsOf Try.f80 5) = impl_Circuit_values.T5 := by kernel_rfl
theorem impl_Circuit_values.bits5 : waitsOk impl_Circuit_values.T5.2 impl_Circuit_values.B5 = true := by kernel_rfl
set_option maxHeartbeats 8000000 in
set_option maxRecDepth 100000 in
theorem impl_Circuit_values.calls (k : Nat) (a0_0 : Int) (A0_1 : Option Addr) (c0_1 : Nat) (l0_1 : List (S121)) (A1 : Option Addr) (c1 : Nat) (l1 : List Int) (r : List Int) (w : World) (hr0_1 : Kd.C k121 w A0_1 l0_1.length l0_1) (hc0_1 : l0_1.length ≤ c0_1) (hr1 : Kd.C (Kd.int .i64) w A1 l1.length l1) (hc1 : l1.length ≤ c1) (h : impl_Circuit_values.f k a0_0 l0_1 l1 = some r) :
  Calls Try.prog 80 #[.agg #[.int .i64 a0_0, .slice A0_1 l0_1.length c0_1], .slice A1 l1.length c1] w fun e w' => ∃ v0_ : Value, e = .returned (v0_) ∧ Kd.R (Kd.int .i64) 3 w' w.heap.size (fun _ => True) v0_ r ∧ Below w.heap.size w w' := by
 have hu45 := Try.underlying45
 have hu121 := Try.underlying121
 have HR0_1 := Aside0.mk hr0_1
 have HC0_1 := Aside0.mk hc0_1
 clear hr0_1 hc0_1
 have HR1 := Aside0.mk hr1
 have HC1 := Aside0.mk hc1
 clear hr1 hc1
 have HB := Aside0.mk (Below.refl w.heap.size w)
 have H : ((some (([0] : List Int) : List Int)).bind fun y209 => (if y209.length + l1.length < 17592186044416 then (impl_Circuit_values.l0 k (y209 ++ l1) l0_1 (l0_1.length : Int) 0) else (none))) = some r := h
 clear h
 obtain ⟨y209, hy209⟩ : ∃ y_ : List Int, y_ = (([0] : List Int)) := ⟨_, rfl⟩
 replace H : (if y209.length + l1.length < 17592186044416 then (impl_Circuit_values.l0 k (y209 ++ l1) l0_1 (l0_1.length : Int) 0) else (none)) = some r := by first | (rw [hy209]; with_reducible exact H) | (have H2_ := (Option.bind_some _ _).symm.trans H; rw [hy209]; with_reducible exact H2_) | (have H2_ := (Option.bind_some _ _).symm.trans H; with_reducible exact H2_) | with_reducible exact H | (rw [hy209]; exact H) | exact H
 have Ny209 := Aside0.mk hy209
 clear hy209
 by_cases c3 : y209.length + l1.length < 17592186044416
 ·rw [if_pos c3] at H
  have LMc3 := Aside0.mk c3
  clear c3
  obtain ⟨y212, hy212⟩ : ∃ y_ : List Int, y_ = (y209 ++ l1) := ⟨_, rfl⟩
  replace H : (impl_Circuit_values.l0 k y212 l0_1 (l0_1.length : Int) 0) = some r := by first | (rw [hy212]; with_reducible exact H) | (have H2_ := (Option.bind_some _ _).symm.trans H; rw [hy212]; with_reducible exact H2_) | (have H2_ := (Option.bind_some _ _).symm.trans H; with_reducible exact H2_) | with_reducible exact H | (rw [hy212]; exact H) | exact H
  have Ny212 := Aside0.mk hy212
  clear hy212
  have H' := Aside0.mk H
  clear H
  go_enter Try.func80, Try.ntmps80
  go_wp2_with (first | ((with_reducible refine gate_dst (N := 2) rfl ?_); refine box_event ?hg (N := 2) ?hd (cs := #[.int .i64 a0_0, .slice A0_1 l0_1.length c0_1]) (t := 45) ?hr ?_; (case hd => rfl); (case hg => rfl); (case hr => first | (go_simp; done) | (go_simp; rfl)); intro gb208 hg w4 hbox hb; have n0_ := Aside0.mk (below_step (by repeat (first | (with_reducible first | exact HB.out | apply bwA | apply bwN | apply bwD) | exact HB.out)) hb); have n1_ := Aside0.mk (hbox); have n2_ := Aside0.mk ((by rw [hg]; exact (below_size (by repeat (first | (with_reducible first | exact HB.out | apply bwA | apply bwN | apply bwD) | exact HB.out))) : w.heap.size ≤ gb208)); have n3_ := Aside0.mk ((by rw [hg]; exact (below_size (by repeat (first | (with_reducible first | exact HB.out | apply bwA | apply bwN | apply bwD) | exact HB.out))) : w.heap.size ≤ gb208)); clear HB; have HB := n0_; have BK208 := n1_; have GW208 := n2_; have GE208 := n3_; clear n0_ n1_ n2_ n3_; clear hb hbox hg) | ((with_reducible refine gate_dst (N := 8) rfl ?_); refine Kd.R_lit (Kd.int .i64) _ 3 ?hg (N := 8) ?hd (xs := ([0] : List Int)) (inner := [.int .i64 0]) (ok := fun _ => True) (okp := fun _ => True) ?hr ?hp (fun _ hk => hk) trivial (Below.refl _ _) (Nat.le_refl _) (by simp) ?_; (case hd => rfl); (case hg => rfl); (case hr => first | (go_simp; done) | (go_simp; rfl)); (case hp => exact (Reps.one (show Kd.M (Kd.int .i64) _ _ _ 0 [.int .i64 0] from rfl) (Reps.none _ _))); intro v210 w5 ho6 hb hg_ hnew_; clear hg_ hnew_; (first | rw [← Ny209.out] at ho6 | (simp only [Int.reduceToNat] at ho6; rw [← Ny209.out] at ho6)); have n0_ := Aside0.mk (Kd.R_lower ho6 (below_size (by repeat (first | (with_reducible first | exact HB.out | apply bwA | apply bwN | apply bwD | refine below_set ?_ GE208.out) | exact HB.out)))); have n1_ := Aside0.mk (blk_below (g := gb208) (o := .cells #[.int .i64 a0_0, .slice A0_1 l0_1.length c0_1] 45 (0, 0)) (bvK BK208.out) hb); have n2_ := Aside0.mk (below_step (by repeat (first | (with_reducible first | exact HB.out | apply bwA | apply bwN | apply bwD | refine below_set ?_ GE208.out) | exact HB.out)) hb); clear BK208; clear HB; have HO211 := n0_; have BK208 := n1_; have HB := n2_; clear n0_ n1_ n2_; clear hb ho6) | ((with_reducible refine gate_builtin (b := .append) (xs := #[.tmp 8, .tmp 9]) rfl ?_); at_builtin; refine Kd.R_append_rows (Kd.int .i64) (w0 := w) w.heap.size rfl (.tmp 8) (.tmp 9) 49 3 (.int .i64 0) 8 rfl Try.underlying49 info3 rfl (by decide) (by omega) v210 y209 l1 _ _ _ (fun _ => True) (fun _ => False) rfl rfl ?aO ?aR (fun _ _ h => h) (fun _ h => h.elim) ?aF ?aB ?aS ?aL ?_; (case aR => repeat (first | exact (Kd.C_below HR1.out HB.out) | (with_reducible refine Kd.C_alloc ?_ _) | (with_reducible refine Kd.C_drewN ?_ _) | (with_reducible refine Kd.C_drew ?_))); (case aB => exact (by repeat (first | (with_reducible first | exact HB.out | apply bwA | apply bwN | apply bwD | refine below_set ?_ GE208.out) | exact HB.out))); (case aF => exact (fun _ _ => trivial)); (case aO => exact (rvR HO211.out)); (case aS => exact (below_size (by repeat (first | (with_reducible first | exact HB.out | apply bwA | apply bwN | apply bwD | refine below_set ?_ GE208.out) | exact HB.out)))); (case aL => have := LMc3.out; omega); intro v213 w7 ho hb hg hat; rw [← Ny212.out] at ho; have n0_ := Aside0.mk (blk_grown (g := gb208) (o := .cells #[.int .i64 a0_0, .slice A0_1 l0_1.length c0_1] 45 (0, 0)) (bvK BK208.out) hg (Kd.R_ne HO211.out BK208.out (by decide))); have n1_ := Aside0.mk (hb); have n2_ := Aside0.mk (ho); clear BK208; clear HB; clear HO211; have BK208 := n0_; have HB := n1_; have HO214 := n2_; clear n0_ n1_ n2_; clear ho hb hg hat; have hcz8_0 : w7.cell? ⟨gb208, 0, none⟩ = some (.int .i64 a0_0) := (blk_cell BK208.out 0).trans rfl; have hcz8_1 : w7.cell? ⟨gb208, 1, none⟩ = some (.slice A0_1 l0_1.length c0_1) := (blk_cell BK208.out 1).trans rfl; have hfz8_0 := blk_frozen BK208.out 0; have hfz8_1 := blk_frozen BK208.out 1))
  go_loopg [5, 14] k (fun kq v5 v14 w' => ∃ (x5_1 : List Int) (x14_1 : Int), v14 = .int .i64 x14_1 ∧ Aside0 (impl_Circuit_values.l0 kq x5_1 l0_1 (l0_1.length : Int) x14_1 = some r) ∧ Aside0 (kq ≤ k) ∧ Aside0 (Kd.R (Kd.int .i64) 3 w' w.heap.size (fun _ => True) v5 x5_1) ∧ Aside0 (w'.heap[gb208]? = some (.cells #[.int .i64 a0_0, (.slice A0_1 l0_1.length c0_1)] 45 (0, 0))) ∧ Aside0 (Below w.heap.size w w'))
  case atStart => exact ⟨(y212), (0), rsd, H', ⟨Nat.le_refl _⟩, ⟨rvR HO214.out⟩, ⟨bvK BK208.out⟩, ⟨by repeat (first | (with_reducible first | exact HB.out | apply bwA | apply bwN | apply bwD | refine below_set ?_ GE208.out) | exact HB.out)⟩⟩
  case round =>
   clear H'
   try clear c1
   try clear p2
   try clear c3
   try clear c8
   try clear hcz8_0
   try clear hcz8_1
   try clear hfz8_0
   try clear hfz8_1
   obtain ⟨x5_1, x14_1, rfl, HA, HK1, HO_5, BK208, HB⟩ := hrel
   cases gk with
   | zero => exact absurd HA.out (by simp [impl_Circuit_values.l0])
   | succ k1 =>
    have H := HA.out
    clear HA
    simp only [impl_Circuit_values.l0] at H
    by_cases c9 : x14_1 < (l0_1.length : Int)
    ·rw [if_pos c9] at H
     have c9b0 : decide (x14_1 < (l0_1.length : Int)) = true := decide_eq_true c9
     clear c9
     by_cases c10 : 0 ≤ x14_1
     ·rw [if_pos c10] at H
      have c10b0 : decide (0 ≤ x14_1) = true := decide_eq_true c10
      clear c10
      by_cases c11 : x14_1 < (l0_1.length : Int)
      ·rw [if_pos c11] at H
       have c11b0 : decide (x14_1 < (l0_1.length : Int)) = true := decide_eq_true c11
       clear c11
       replace H := Option.bind_eq_some_iff.mp H
       obtain ⟨t217, A120, H⟩ := H
       replace H : ((impl_edgeOf.f x5_1 ((rd_T121 l0_1 x14_1).f1)).bind fun t218 => (if x5_1.length < 17592186044416 then (impl_Circuit_values.l0 k1 (x5_1 ++ [Go.bits .and .i64 t217 t218]) l0_1 (l0_1.length : Int) (wrap64 (x14_1 + 1))) else (none))) = some r := H
       have A12 := Aside0.mk A120
       clear A120
       replace H := Option.bind_eq_some_iff.mp H
       obtain ⟨t218, A130, H⟩ := H
       replace H : (if x5_1.length < 17592186044416 then (impl_Circuit_values.l0 k1 (x5_1 ++ [Go.bits .and .i64 t217 t218]) l0_1 (l0_1.length : Int) (wrap64 (x14_1 + 1))) else (none)) = some r := H
       have A13 := Aside0.mk A130
       clear A130
       by_cases c14 : x5_1.length < 17592186044416
       ·rw [if_pos c14] at H
        have LMc14 := Aside0.mk c14
        clear c14
        obtain ⟨y219, hy219⟩ : ∃ y_ : List Int, y_ = (x5_1 ++ [Go.bits .and .i64 t217 t218]) := ⟨_, rfl⟩
        replace H : (impl_Circuit_values.l0 k1 y219 l0_1 (l0_1.length : Int) (wrap64 (x14_1 + 1))) = some r := by first | (rw [hy219]; with_reducible exact H) | (have H2_ := (Option.bind_some _ _).symm.trans H; rw [hy219]; with_reducible exact H2_) | (have H2_ := (Option.bind_some _ _).symm.trans H; with_reducible exact H2_) | with_reducible exact H | (rw [hy219]; exact H) | exact H
        have Ny219 := Aside0.mk hy219
        clear hy219
        have H' := Aside0.mk H
        clear H
        have p215 : 0 ≤ (x14_1 : Int) := oda
        have q215 : x14_1 < (l0_1.length : Int) := oda
        obtain ⟨ad215, e215, hx215_0, hx215_1⟩ := at_T121 HR0_1.out x14_1 p215 q215
        cases e215
        try replace hx215_0 := bct HB.out hx215_0
        try replace hx215_1 := bct HB.out hx215_1
        replace p215 := eq_true p215
        replace q215 := eq_true q215
        try go_wp2_with (first | ((with_reducible refine gate_dst (N := 7) rfl ?_); refine box_event ?hg (N := 7) ?hd (cs := #[.int .i64 0, .int .i64 0]) (t := 121) ?hr ?_; (case hd => rfl); (case hg => rfl); (case hr => first | (go_simp; done) | (go_simp; rfl)); intro gb216 hg w15 hbox hb; have n0_ := Aside0.mk (Kd.R_below (rvR HO_5.out) hb); have n1_ := Aside0.mk (blk_below (g := gb208) (o := .cells #[.int .i64 a0_0, .slice (some ad215) l0_1.length c0_1] 45 (0, 0)) (bvK BK208.out) hb); have n2_ := Aside0.mk (below_step (by repeat (first | (with_reducible first | exact HB.out | apply bwA | apply bwN | apply bwD | refine below_set ?_ GE208.out) | exact HB.out)) hb); have n3_ := Aside0.mk (hbox); have n4_ := Aside0.mk ((by rw [hg]; exact (below_size (by repeat (first | (with_reducible first | exact HB.out | apply bwA | apply bwN | apply bwD | refine below_set ?_ GE208.out) | exact HB.out))) : w.heap.size ≤ gb216)); have n5_ := Aside0.mk ((by rw [hg]; exact (below_size (by repeat (first | (with_reducible first | exact HB.out | apply bwA | apply bwN | apply bwD | refine below_set ?_ GE208.out) | exact HB.out))) : w.heap.size ≤ gb216)); have n6_ := Aside0.mk ((by rw [hg]; exact Nat.ne_of_lt (blk_lt (g := gb208) (o := .cells #[.int .i64 a0_0, .slice (some ad215) l0_1.length c0_1] 45 (0, 0)) (bvK BK208.out)) : gb208 ≠ gb216)); have n7_ := Aside0.mk ((by rw [hg]; exact Nat.ne_of_gt (blk_lt (g := gb208) (o := .cells #[.int .i64 a0_0, .slice (some ad215) l0_1.length c0_1] 45 (0, 0)) (bvK BK208.out)) : gb216 ≠ gb208)); clear HO_5; clear BK208; clear HB; have HO_5 := n0_; have BK208 := n1_; have HB := n2_; have BK216 := n3_; have GW216 := n4_; have GE216 := n5_; have NB208_216 := n6_; have NB216_208 := n7_; clear n0_ n1_ n2_ n3_ n4_ n5_ n6_ n7_; clear hb hbox hg; have hnb16 := NB216_208.out; have hnc16 := NB208_216.out; have hcz17_0 : w15.cell? ⟨gb216, 0, none⟩ = some (.int .i64 0) := (blk_cell BK216.out 0).trans rfl; have hcz17_1 : w15.cell? ⟨gb216, 1, none⟩ = some (.int .i64 0) := (blk_cell BK216.out 1).trans rfl; have hfz17_0 := blk_frozen BK216.out 0; have hfz17_1 := blk_frozen BK216.out 1))
        have n0_ : Aside0 (Kd.R (Kd.int .i64) 3 ((w15.setCell ⟨gb216, 0, none⟩ (.int .i64 ((rd_T121 l0_1 x14_1).f0))).setCell ⟨gb216, 1, none⟩ (.int .i64 ((rd_T121 l0_1 x14_1).f1))) w.heap.size (fun _ => True) u5 x5_1) := ⟨by (with_reducible repeat (first | apply Kd.R_alloc | apply Kd.R_drewN | apply Kd.R_drew)); exact Kd.R_mono (Kd.R_far (p := ⟨gb216, 1, none⟩) (Kd.R_far (p := ⟨gb216, 0, none⟩) (Kd.R_types HO_5.out BK216.out (by decide)) (fun _ hk => hk.2) (.int .i64 ((rd_T121 l0_1 x14_1).f0))) (fun _ hk => hk.2) (.int .i64 ((rd_T121 l0_1 x14_1).f1))) (fun _ hk => trivial)⟩
        have n1_ : Aside0 (((w15.setCell ⟨gb216, 0, none⟩ (.int .i64 ((rd_T121 l0_1 x14_1).f0))).setCell ⟨gb216, 1, none⟩ (.int .i64 ((rd_T121 l0_1 x14_1).f1))).heap[gb208]? = some (.cells #[.int .i64 a0_0, .slice (some ad215) l0_1.length c0_1] 45 (0, 0))) := ⟨by (with_reducible repeat (first | refine blk_drewN ?_ _ | refine blk_drew ?_ | refine blk_alloc ?_ _)); refine blk_far ?_ NB208_216.out _; (with_reducible repeat (first | refine blk_drewN ?_ _ | refine blk_drew ?_ | refine blk_alloc ?_ _)); refine blk_far ?_ NB208_216.out _; (with_reducible repeat (first | refine blk_drewN ?_ _ | refine blk_drew ?_ | refine blk_alloc ?_ _)); exact BK208.out⟩
        have n2_ : Aside0 (((w15.setCell ⟨gb216, 0, none⟩ (.int .i64 ((rd_T121 l0_1 x14_1).f0))).setCell ⟨gb216, 1, none⟩ (.int .i64 ((rd_T121 l0_1 x14_1).f1))).heap[gb216]? = some (.cells #[.int .i64 ((rd_T121 l0_1 x14_1).f0), .int .i64 ((rd_T121 l0_1 x14_1).f1)] 121 (0, 0))) := ⟨by (with_reducible repeat (first | refine blk_drewN ?_ _ | refine blk_drew ?_ | refine blk_alloc ?_ _)); refine blk_put (cs := #[.int .i64 ((rd_T121 l0_1 x14_1).f0), .int .i64 0]) ?_ 1 _ rfl; (with_reducible repeat (first | refine blk_drewN ?_ _ | refine blk_drew ?_ | refine blk_alloc ?_ _)); refine blk_put (cs := #[.int .i64 0, .int .i64 0]) ?_ 0 _ rfl; (with_reducible repeat (first | refine blk_drewN ?_ _ | refine blk_drew ?_ | refine blk_alloc ?_ _)); exact BK216.out⟩
        have n3_ : Aside0 (Below w.heap.size w ((w15.setCell ⟨gb216, 0, none⟩ (.int .i64 ((rd_T121 l0_1 x14_1).f0))).setCell ⟨gb216, 1, none⟩ (.int .i64 ((rd_T121 l0_1 x14_1).f1)))) := ⟨by repeat (first | (with_reducible first | exact HB.out | apply bwA | apply bwN | apply bwD | refine below_set ?_ GE208.out | refine below_set ?_ GE216.out) | exact HB.out)⟩
        (try clear HO_5)
        (try clear BK208)
        (try clear BK216)
        (try clear HB)
        generalize ((w15.setCell ⟨gb216, 0, none⟩ (.int .i64 ((rd_T121 l0_1 x14_1).f0))).setCell ⟨gb216, 1, none⟩ (.int .i64 ((rd_T121 l0_1 x14_1).f1))) = w18 at n0_ n1_ n2_ n3_ ⊢
        have HO_5 := n0_
        have BK208 := n1_
        have BK216 := n2_
        have HB := n3_
        clear n0_ n1_ n2_ n3_
        have n0_ := Aside0.mk (Kd.R_drew HO_5.out)
        have n1_ := Aside0.mk (blk_drew BK208.out)
        have n2_ := Aside0.mk (blk_drew BK216.out)
        have n3_ := Aside0.mk (below_drew1 HB.out)
        clear HO_5
        clear BK208
        clear BK216
        clear HB
        have HO_5 := n0_
        have BK208 := n1_
        have BK216 := n2_
        have HB := n3_
        clear n0_ n1_ n2_ n3_
        obtain ⟨Ao20, co20, eo20⟩ := Kd.R_slice HO_5.out
        (first | subst eo20 | (injection eo20 with f1_ f2_ f3_; have f4_ := f1_.symm; have f5_ := f3_.symm; clear f1_ f2_ f3_; subst f4_; subst f5_))
        refine start_ (n := 13) (S := fun w' => w'.cell? ⟨gb216, 0, none⟩ = some (.int .i64 ((rd_T121 l0_1 x14_1).f0)) ∧ w'.cell? ⟨gb216, 1, none⟩ = some (.int .i64 ((rd_T121 l0_1 x14_1).f1))) (ds := []) (Pt.bm 13 0) (by kernel_rfl) rfl rfl ⟨(blk_cell BK216.out 0).trans rfl, (blk_cell BK216.out 1).trans rfl⟩ (fun hHeld => ?_); refine with_tabW impl_Circuit_values.tab5 impl_Circuit_values.bits5 (fun HT_ HW_ => ?_)
        generalize w18.drew = w19 at HO_5 BK208 BK216 HB hHeld ⊢
        refine Pt.pu 0 (some 18) (Pt.bm 13 1) (any_of HT_.out (by kernel_rfl)) ?_
        refine Pt.pu 1 (some 19) (Pt.bm 13 3) (any_of HT_.out (by kernel_rfl)) ?_
        refine Pt.pu 2 (some 20) (Pt.bm 13 7) (any_of HT_.out (by kernel_rfl)) ?_
        refine Pt.pu 5 (some 23) (Pt.bm 13 39) (any_of HT_.out (by kernel_rfl)) ?_
        refine Pt.pu 6 (some 24) (Pt.bm 13 103) (any_of HT_.out (by kernel_rfl)) ?_
        refine Pt.tk 3 (some 21) (Pt.bm 13 111) rfl rfl (take_ofW HT_.out HW_.out (by kernel_rfl)) hHeld (Or.inl ⟨by rfl, by rintro w' ⟨s0, s1⟩; go_simp; with_reducible rfl⟩) ?_
        refine Pt.tk 7 (some 25) (Pt.bm 13 239) rfl rfl (take_ofW HT_.out HW_.out (by kernel_rfl)) hHeld (Or.inl ⟨by rfl, by rintro w' ⟨s0, s1⟩; go_simp; with_reducible rfl⟩) ?_
        refine one_ (i := 4) (N := some 22) (Pt.bm 13 255) rfl rfl (one_of HT_.out (by kernel_rfl)) (by decide) (fun K hK => ?_)
        refine goes_ Try.func79 (by kernel_rfl) rfl #[.slice Ao20 x5_1.length co20, .int .i64 ((rd_T121 l0_1 x14_1).f0)] (by rfl) rfl rfl lmB ?_
        with_reducible refine (impl_edgeOf.calls _ _ x5_1 ((rd_T121 l0_1 x14_1).f0) t217 _ ?side1 ?side2 A12.out).mono ?_
        (case side1 => repeat (first | exact (Kd.R_reads' HO_5.out).2.2 | (with_reducible refine Kd.C_alloc ?_ _) | (with_reducible refine Kd.C_drewN ?_ _) | (with_reducible refine Kd.C_drew ?_)))
        (case side2 => exact (Kd.R_reads' HO_5.out).2.1)
        rintro e w' ⟨rfl, ⟨nd, rfl⟩⟩
        refine ⟨_, rfl, ?_⟩
        refine hK.out _ _ ⟨(blk_cell BK216.out 0).trans rfl, (blk_cell BK216.out 1).trans rfl⟩ (fun hHeld => ?_)
        clear hK K
        refine norm_ (a' := ?_) ?_ ?_
        rotate_left
        ·show Act.put _ (some 22) _ = _
         simp only [Act.put, List.setIfInBounds_toArray, List.set_cons_zero, List.set_cons_succ, i64_w, i32_w]
         rfl
        refine one_ (i := 8) (N := some 26) (Pt.bm 13 511) rfl rfl (one_of HT_.out (by kernel_rfl)) (by decide) (fun K hK => ?_)
        refine goes_ Try.func79 (by kernel_rfl) rfl #[.slice Ao20 x5_1.length co20, .int .i64 ((rd_T121 l0_1 x14_1).f1)] (by rfl) rfl rfl lmB ?_
        with_reducible refine (impl_edgeOf.calls _ _ x5_1 ((rd_T121 l0_1 x14_1).f1) t218 _ ?side1 ?side2 A13.out).mono ?_
        (case side1 => repeat (first | exact (Kd.R_reads' HO_5.out).2.2 | (with_reducible refine Kd.C_alloc ?_ _) | (with_reducible refine Kd.C_drewN ?_ _) | (with_reducible refine Kd.C_drew ?_)))
        (case side2 => exact (Kd.R_reads' HO_5.out).2.1)
        rintro e w' ⟨rfl, ⟨nd, rfl⟩⟩
        refine ⟨_, rfl, ?_⟩
        refine hK.out _ _ ⟨(blk_cell BK216.out 0).trans rfl, (blk_cell BK216.out 1).trans rfl⟩ (fun hHeld => ?_)
        clear hK K
        refine norm_ (a' := ?_) ?_ ?_
        rotate_left
        ·show Act.put _ (some 26) _ = _
         simp only [Act.put, List.setIfInBounds_toArray, List.set_cons_zero, List.set_cons_succ, i64_w, i32_w]
         rfl
        refine Pt.pu 9 (some 27) (Pt.bm 13 1023) (any_of HT_.out (by kernel_rfl)) ?_
        refine one_ (i := 10) (N := some 28) (Pt.bm 13 2047) rfl rfl (one_of HT_.out (by kernel_rfl)) (by decide) (fun K hK => ?_)
        refine value_ (w1 := ?_) (v := ?_) (by rfl) rfl ?_ ?_
        rotate_left 2
        ·go_simp
         constructor
         ·rfl
         ·rfl
        refine hK.out _ _ ⟨(blk_cell (blk_alloc BK216.out _) 0).trans rfl, (blk_cell (blk_alloc BK216.out _) 1).trans rfl⟩ (fun hHeld => ?_)
        clear hK K
        refine norm_ (a' := ?_) ?_ ?_
        rotate_left
        ·show Act.put _ (some 28) _ = _
         simp only [Act.put, List.setIfInBounds_toArray, List.set_cons_zero, List.set_cons_succ, i64_w, i32_w]
         rfl
        refine one_ (i := 11) (N := some 29) (Pt.bm 13 4095) rfl rfl (one_of HT_.out (by kernel_rfl)) (by decide) (fun K hK => ?_)
        refine Kd.R_append_step (Kd.int .i64) (w0 := w) w.heap.size (by rfl) (.tmp 18) (.tmp 28) 49 3 (.int .i64 0) 8 rfl Try.underlying49 info3 rfl (by decide) (by omega) (.slice Ao20 x5_1.length co20) x5_1 (Go.bits .and .i64 t217 t218) [.int .i64 (Go.bits .and .i64 t217 t218)] (fun _ => True) (fun _ => False) rfl rfl ?aP (fun _ hk => hk.elim) ?aF ?aO ?aB ?aS ?aL ?_
        (case aP => exact rfl)
        (case aB => exact (by repeat (first | (with_reducible first | exact HB.out | apply bwA | apply bwN | apply bwD | refine below_set ?_ GE208.out | refine below_set ?_ GE216.out) | exact HB.out)))
        (case aF => exact (fun _ _ => trivial))
        (case aO => exact (rvR HO_5.out))
        (case aS => exact (below_size (by repeat (first | (with_reducible first | exact HB.out | apply bwA | apply bwN | apply bwD | refine below_set ?_ GE208.out | refine below_set ?_ GE216.out) | exact HB.out))))
        (case aL => have := LMc14.out; omega)
        intro v220 w21 ho hb hg hat
        rw [← Ny219.out] at ho
        have n0_ := Aside0.mk (blk_grown (g := gb208) (o := .cells #[.int .i64 a0_0, .slice (some ad215) l0_1.length c0_1] 45 (0, 0)) (bvK BK208.out) hg (Kd.R_ne HO_5.out BK208.out (by decide)))
        have n1_ := Aside0.mk (blk_grown (g := gb216) (o := .cells #[.int .i64 ((rd_T121 l0_1 x14_1).f0), .int .i64 ((rd_T121 l0_1 x14_1).f1)] 121 (0, 0)) (bvK BK216.out) hg (Kd.R_ne HO_5.out BK216.out (by decide)))
        have n2_ := Aside0.mk (hb)
        have n3_ := Aside0.mk (ho)
        clear BK208
        clear BK216
        clear HB
        clear HO_5
        have BK208 := n0_
        have BK216 := n1_
        have HB := n2_
        have HO221 := n3_
        clear n0_ n1_ n2_ n3_
        clear ho hb hg hat
        refine hK.out _ _ ⟨(blk_cell BK216.out 0).trans rfl, (blk_cell BK216.out 1).trans rfl⟩ (fun hHeld => ?_)
        clear hK K
        refine norm_ (a' := ?_) ?_ ?_
        rotate_left
        ·show Act.put _ (some 29) _ = _
         simp only [Act.put, List.setIfInBounds_toArray, List.set_cons_zero, List.set_cons_succ, i64_w, i32_w]
         rfl
        refine Pt.pu 12 (some 5) (Pt.bm 13 8191) (any_of HT_.out (by kernel_rfl)) ?_
        refine done_ (done_of HT_.out (by kernel_rfl)) ?_
        try go_wp2
        go_roundg k1
        case measure => have := HK1.out; omega
        case rel => exact ⟨(y219), (wrap64 (x14_1 + 1)), rsd, H', ⟨by have := HK1.out; omega⟩, ⟨rvR HO221.out⟩, ⟨bvK BK208.out⟩, ⟨by repeat (first | (with_reducible first | exact HB.out | apply bwA | apply bwN | apply bwD | refine below_set ?_ GE208.out | refine below_set ?_ GE216.out) | exact HB.out)⟩⟩
       ·rw [if_neg c14] at H
        exact absurd H (by simp)
      ·rw [if_neg c11] at H
       exact absurd H (by simp)
     ·rw [if_neg c10] at H
      exact absurd H (by simp)
    ·rw [if_neg c9] at H
     have c9b0 : decide (x14_1 < (l0_1.length : Int)) = false := decide_eq_false c9
     clear c9
     obtain rfl := Option.some.inj H
     go_wp2
     go_ret
     exact ⟨_, ers, by (with_reducible repeat (first | apply Kd.R_alloc | apply Kd.R_drewN | apply Kd.R_drew)); exact HO_5.out, by repeat (first | (with_reducible first | exact HB.out | apply bwA | apply bwN | apply bwD | refine below_set ?_ GE208.out) | exact HB.out)⟩
 ·rw [if_neg c3] at H
  exact absurd H (by simp)

end Go.Proofs.Ytpcompnmadpljaa.QFnDiagramOf
