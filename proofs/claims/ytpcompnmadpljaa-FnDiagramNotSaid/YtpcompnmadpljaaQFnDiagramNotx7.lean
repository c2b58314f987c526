-- Written by a program of this session (mk.py). Lean checks it.
import Derived.Test.YtpcompnmadpljaaQFnDiagramNotx0
import Derived.Test.YtpcompnmadpljaaQFnDiagramNotx2
import Derived.Test.YtpcompnmadpljaaQFnDiagramNotx5
import Derived.Test.YtpcompnmadpljaaQFnDiagramNotx6
namespace Go.Proofs.Ytpcompnmadpljaa.QFnDiagramNot
open Go.RowKit Go.Proofs.YtpcompnmadpljaaW.PrintWords Go.Proofs.YtpcompnmadpljaaW.PrintLast Go.Proofs.YtpcompnmadpljaaW.PrintMore
attribute [local go_sem] max2_int min2_int max_two min_two max_three min_three max_four min_four   -- for this text's walks alone
set_option linter.unusedVariables false
set_option linter.unusedSimpArgs false

/-! ### impl_forking_apply: function 103 -/
def impl_forking_apply.put (s : FS) (key : Int × Int × Int) (n : Int) : FS := { s with memo := fun y => if y = key then some n else s.memo y }
def impl_forking_apply.two (rec : FS → Int → Int → Int → Option (FS × Int)) (s : FS) (op a b v : Int) : Option (FS × Int) :=
 (impl_forking_goes.f s a v 0).bind fun a0 => (impl_forking_goes.f s b v 0).bind fun b0 => (rec s op a0 b0).bind fun p1 =>
 (impl_forking_goes.f p1.1 a v 1).bind fun a1 => (impl_forking_goes.f p1.1 b v 1).bind fun b1 => (rec p1.1 op a1 b1).bind fun p2 =>
 if p2.1.full = true then some (p2.1, 0) else (impl_forking_fork.f p2.1 v p1.2 p2.2).bind fun p3 => some (impl_forking_apply.put p3.1 (op, a, b) p3.2, p3.2)
def impl_forking_apply.f : Nat → FS → Int → Int → Int → Option (FS × Int)
 | 0, _, _, _, _ => none
 | k + 1, s, op, a, b =>
  if op = 0 ∧ a < 2 then some (s, wrap64 (1 - a))
  else if op = 1 ∧ (a = 0 ∨ b = 0) ∨ op = 2 ∧ (a = 1 ∨ b = 1) then some (s, wrap64 (op - 1))
  else if op ≠ 0 ∧ a < 2 ∧ b < 2 then some (s, a)
  else if ok3 (op, a, b) then
   match s.memo (op, a, b) with
   | some n => some (s, n)
   | none => (impl_Diagram_varAt.f s.vars s.forks a).bind fun va => (if op = 0 then some va else (impl_Diagram_varAt.f s.vars s.forks b).bind fun vb => some (if vb < va then vb else va)).bind fun v =>
    impl_forking_apply.two (impl_forking_apply.f k) s op a b v
  else none
theorem impl_forking_apply.two_le {f1 f2 : FS → Int → Int → Int → Option (FS × Int)} (h : ∀ s op a b, LeO (f1 s op a b) (f2 s op a b)) (s : FS) (op a b v : Int) : LeO (impl_forking_apply.two f1 s op a b v) (impl_forking_apply.two f2 s op a b v) :=
 LeO.bind (LeO.refl _) (fun _ => LeO.bind (LeO.refl _) (fun _ => LeO.bind (h _ _ _ _) (fun _ => LeO.bind (LeO.refl _) (fun _ => LeO.bind (LeO.refl _) (fun _ => LeO.bind (h _ _ _ _) (fun _ => LeO.refl _))))))
theorem impl_forking_apply.le : ∀ (k : Nat) (s : FS) (op a b : Int), LeO (impl_forking_apply.f k s op a b) (impl_forking_apply.f (k + 1) s op a b)
 | 0 => fun _ _ _ _ r h => by simp [impl_forking_apply.f] at h
 | k + 1 => fun s op a b => by
  have ih := impl_forking_apply.le k
  rw [impl_forking_apply.f, impl_forking_apply.f]
  refine LeO.ite (LeO.refl _) (LeO.ite (LeO.refl _) (LeO.ite (LeO.refl _) (LeO.ite ?_ (LeO.refl _))))
  cases s.memo (op, a, b) with
  | some n => exact LeO.refl _
  | none => exact LeO.bind (LeO.refl _) (fun _ => LeO.bind (LeO.refl _) (fun _ => impl_forking_apply.two_le ih _ _ _ _ _))
theorem impl_forking_apply.mono : ∀ s op a b k, LeO (impl_forking_apply.f k s op a b) (impl_forking_apply.f (k + 1) s op a b) := fun s op a b k => impl_forking_apply.le k s op a b
set_option maxHeartbeats 16000000 in
set_option maxRecDepth 100000 in
theorem impl_forking_apply.calls : ∀ (k : Nat) (s s' : FS) (op a b r : Int) (ok : Nat → Prop) (g : Nat) (w0 w : World) (_ : Below w0.heap.size w0 w) (_ : IsF w w0.heap.size ok g s) (_ : ∀ k, w.heap.size ≤ k → ok k) (_ : impl_forking_apply.f k s op a b = some (s', r)),
  Calls Try.prog 103 #[.pointer (some ⟨g, 0, none⟩), .int .i64 op, .int .i64 a, .int .i64 b] w fun e w' => e = .returned (.int .i64 r) ∧ IsF w' w0.heap.size ok g s' ∧ Below w0.heap.size w0 w' ∧ Kept w w' ok
 | 0 => fun _ _ _ _ _ _ _ _ _ _ _ _ _ h => by simp [impl_forking_apply.f] at h
 | k + 1 => fun s s' op a b r ok g w0 w hB hI hf h => by
  have ih := Aside0.mk (impl_forking_apply.calls k)
  have hu25 := Try.underlying25
  have hu128 := Try.underlying128
  have hu113 := Try.underlying113
  have HI := Aside0.mk hI
  have HB := Aside0.mk hB
  have HF := Aside0.mk hf
  simp only [impl_forking_apply.f] at h
  clear hI hB hf
  by_cases c1 : op = 0 ∧ a < 2
  ·rw [if_pos c1] at h
   obtain ⟨rfl, rfl⟩ := Prod.mk.inj (Option.some.inj h)
   obtain ⟨d1, d2⟩ := c1
   have e1 : (op == 0) = true := beq_iff_eq.mpr d1
   have e2 : decide (a < 2) = true := decide_eq_true d2
   have e3 := (i64_w (1 - a))
   clear h d1 d2
   go_enter Try.func103, Try.ntmps103
   go_wp2
   go_ret
   exact ⟨by first | rfl | simp [e3], HI.out, HB.out, Kept.refl _ _⟩
  rw [if_neg c1] at h
  by_cases c2 : op = 1 ∧ (a = 0 ∨ b = 0) ∨ op = 2 ∧ (a = 1 ∨ b = 1)
  ·rw [if_pos c2] at h
   obtain ⟨rfl, rfl⟩ := Prod.mk.inj (Option.some.inj h)
   have e3 := (i64_w (op - 1))
   clear h c1
   have key : ((op == 0) = false ∧ (op == 1) = true ∧ (a == 0) = true ∧ True ∧ True) ∨ ((op == 0) = false ∧ (op == 1) = true ∧ (a == 0) = false ∧ (b == 0) = true ∧ True) ∨ ((op == 0) = false ∧ (op == 1) = false ∧ (op == 2) = true ∧ (a == 1) = true ∧ True) ∨ ((op == 0) = false ∧ (op == 1) = false ∧ (op == 2) = true ∧ (a == 1) = false ∧ (b == 1) = true) := by
    rcases c2 with ⟨rfl, c⟩ | ⟨rfl, c⟩
    ·by_cases ha : a = 0
     ·exact .inl ⟨rfl, rfl, by simp [ha], trivial, trivial⟩
     ·exact .inr (.inl ⟨rfl, rfl, by simp [ha], by simp; omega, trivial⟩)
    ·by_cases ha : a = 1
     ·exact .inr (.inr (.inl ⟨rfl, rfl, rfl, by simp [ha], trivial⟩))
     ·exact .inr (.inr (.inr ⟨rfl, rfl, rfl, by simp [ha], by simp; omega⟩))
   clear c2
   rcases key with ⟨e1, e2, e4, e5, e6⟩ | ⟨e1, e2, e4, e5, e6⟩ | ⟨e1, e2, e4, e5, e6⟩ | ⟨e1, e2, e4, e5, e6⟩
   all_goals
    go_enter Try.func103, Try.ntmps103
    go_wp2
    go_ret
    exact ⟨by first | rfl | simp [e3], HI.out, HB.out, Kept.refl _ _⟩
  rw [if_neg c2] at h
  by_cases c3 : op ≠ 0 ∧ a < 2 ∧ b < 2
  ·rw [if_pos c3] at h
   obtain ⟨rfl, rfl⟩ := Prod.mk.inj (Option.some.inj h)
   obtain ⟨d1, d2, d3⟩ := c3
   have e1 : (op == 0) = false := beq_eq_false_iff_ne.mpr d1
   have e2 : (op != 0) = true := bne_iff_ne.mpr d1
   have e3 : decide (a < 2) = true := decide_eq_true d2
   have e4 : decide (b < 2) = true := decide_eq_true d3
   clear h
   have key : ((op == 1) = true ∧ (op == 2) = false ∧ (a == 0) = false ∧ (b == 0) = false) ∨ ((op == 1) = false ∧ (op == 2) = true ∧ (a == 1) = false ∧ (b == 1) = false) ∨ ((op == 1) = false ∧ (op == 2) = false ∧ True ∧ True) := by
    by_cases h1 : op = 1
    ·subst h1
     exact .inl ⟨rfl, rfl, by simp; omega, by simp; omega⟩
    ·by_cases h2 : op = 2
     ·subst h2
      exact .inr (.inl ⟨rfl, rfl, by simp; omega, by simp; omega⟩)
     ·exact .inr (.inr ⟨by simp [h1], by simp [h2], trivial, trivial⟩)
   clear d1 d2 d3 c1 c2
   rcases key with ⟨e5, e6, e7, e8⟩ | ⟨e5, e6, e7, e8⟩ | ⟨e5, e6, e7, e8⟩
   all_goals
    go_enter Try.func103, Try.ntmps103
    go_wp2
    go_ret
    exact ⟨rfl, HI.out, HB.out, Kept.refl _ _⟩
  rw [if_neg c3] at h
  by_cases c4 : ok3 (op, a, b)
  ·rw [if_pos c4] at h
   have C4 := Aside0.mk c4
   have H := Aside0.mk h
   have H0 := Aside0.mk (show op = 0 ∨ op ≠ 0 from Decidable.em _)
   clear c4 h
   obtain ⟨u, b1, b2, hg, hR, hM1, hM2, hne, k1, k2, k3, k4, k5, k6⟩ := HI.out
   obtain ⟨A, c, rfl⟩ := Kd.R_slice hR
   have BG := Aside0.mk hg
   have HC := Aside0.mk (Kd.R_reads' hR).2.1
   have HR := Aside0.mk (Kd.R_reads' hR).2.2
   have M2 := Aside0.mk hM2
   have GL := Aside0.mk (And.intro k1 (blk_lt hg))
   clear hg hR hM1 hM2 hne k1 k2 k3 k4 k5 k6
   have key : ((op == 0) = true ∧ (op != 0) = false ∧ (op == 1) = false ∧ (op == 2) = false ∧ decide (a < 2) = false ∧ True ∧ True) ∨ ((op == 0) = false ∧ (op != 0) = true ∧ (op == 1) = true ∧ (op == 2) = false ∧ (a == 0) = false ∧ (b == 0) = false ∧ (decide (a < 2) = false ∨ decide (a < 2) = true ∧ decide (b < 2) = false)) ∨ ((op == 0) = false ∧ (op != 0) = true ∧ (op == 1) = false ∧ (op == 2) = true ∧ (a == 1) = false ∧ (b == 1) = false ∧ (decide (a < 2) = false ∨ decide (a < 2) = true ∧ decide (b < 2) = false)) ∨ ((op == 0) = false ∧ (op != 0) = true ∧ (op == 1) = false ∧ (op == 2) = false ∧ True ∧ True ∧ (decide (a < 2) = false ∨ decide (a < 2) = true ∧ decide (b < 2) = false)) := by
    by_cases h0 : op = 0
    ·subst h0
     exact .inl ⟨rfl, rfl, rfl, rfl, by simp; omega, trivial, trivial⟩
    ·have hab : decide (a < 2) = false ∨ decide (a < 2) = true ∧ decide (b < 2) = false := by
      by_cases ha : a < 2
      ·exact .inr ⟨by simp [ha], by simp; omega⟩
      ·exact .inl (by simp [ha])
     by_cases h1 : op = 1
     ·subst h1
      exact .inr (.inl ⟨rfl, rfl, rfl, rfl, by simp; omega, by simp; omega, hab⟩)
     ·by_cases h2 : op = 2
      ·subst h2
       exact .inr (.inr (.inl ⟨rfl, rfl, rfl, rfl, by simp; omega, by simp; omega, hab⟩))
      ·exact .inr (.inr (.inr ⟨by simp [h0], by simp [h0], by simp [h1], by simp [h2], trivial, trivial, hab⟩))
   have KEY := Aside0.mk key
   clear c1 c2 c3 key
   go_enter Try.func103, Try.ntmps103
   go_upto_block 0 with fail
   go_cut [] from 16 to 58 (fun wc => w = wc)
   case first =>
    rcases KEY.out with ⟨e1, e2, e3, e4, e5, e6, e7⟩ | ⟨e1, e2, e3, e4, e5, e6, e7 | ⟨e7, e8⟩⟩ | ⟨e1, e2, e3, e4, e5, e6, e7 | ⟨e7, e8⟩⟩ | ⟨e1, e2, e3, e4, e5, e6, e7 | ⟨e7, e8⟩⟩
    all_goals
     go_wp2_with fail
     go_meet
     case rel => rfl
   case rest =>
    subst hcut
    clear KEY
    go_wp2_with ((with_reducible refine gate_dst (N := 9) rfl ?_); refine box_event ?hg (N := 9) ?hd (cs := #[.int .i64 0, .int .i64 0, .int .i64 0]) (t := 128) ?hr ?_; (case hd => rfl); (case hg => rfl); (case hr => first | (go_simp; done) | (go_simp; rfl)); intro gb hgb w3 hbox hb; have BX0 := Aside0.mk hbox; have HB3 := Aside0.mk hb; have hz0 : w3.cell? ⟨gb, 0, none⟩ = some (.int .i64 0) := (blk_cell BX0.out 0).trans rfl; have hz1 : w3.cell? ⟨gb, 1, none⟩ = some (.int .i64 0) := (blk_cell BX0.out 1).trans rfl; have hz2 : w3.cell? ⟨gb, 2, none⟩ = some (.int .i64 0) := (blk_cell BX0.out 2).trans rfl; have hy0 := blk_frozen BX0.out 0; have hy1 := blk_frozen BX0.out 1; have hy2 := blk_frozen BX0.out 2; have HGB := Aside0.mk hgb; clear hgb hbox hb)
    have n0 : Aside0 (Below w.heap.size w (((w3.setCell ⟨gb, 0, none⟩ (.int .i64 op)).setCell ⟨gb, 1, none⟩ (.int .i64 a)).setCell ⟨gb, 2, none⟩ (.int .i64 b))) := ⟨below_set (below_set (below_set HB3.out (Nat.le_of_eq HGB.out.symm)) (Nat.le_of_eq HGB.out.symm)) (Nat.le_of_eq HGB.out.symm)⟩
    have n1 : Aside0 ((((w3.setCell ⟨gb, 0, none⟩ (.int .i64 op)).setCell ⟨gb, 1, none⟩ (.int .i64 a)).setCell ⟨gb, 2, none⟩ (.int .i64 b)).heap[gb]? = some (.cells #[.int .i64 op, .int .i64 a, .int .i64 b] 128 (0, 0))) := ⟨blk_put (blk_put (blk_put BX0.out 0 _ rfl) 1 _ rfl) 2 _ rfl⟩
    generalize (((w3.setCell ⟨gb, 0, none⟩ (.int .i64 op)).setCell ⟨gb, 1, none⟩ (.int .i64 a)).setCell ⟨gb, 2, none⟩ (.int .i64 b)) = w4 at n0 n1 ⊢
    clear hz0 hz1 hz2 hy0 hy1 hy2 BX0 HB3
    have BG4 := Aside0.mk (blk_below BG.out n0.out)
    have M4 := Aside0.mk (M2.out.below n0.out)
    refine start_ (n := 11) (S := fun w' => w'.cell? ⟨g, 4, none⟩ = some (.map (some b2)) ∧ w'.cell? ⟨gb, 0, none⟩ = some (.int .i64 op) ∧ w'.cell? ⟨gb, 1, none⟩ = some (.int .i64 a) ∧ w'.cell? ⟨gb, 2, none⟩ = some (.int .i64 b) ∧ Mp.Is ek3 ok3 (Value.int .i64) w' b2 s.memo) (ds := []) (Pt.bm 11 0) (by kernel_rfl) rfl rfl ⟨(blk_cell BG4.out 4).trans rfl, (blk_cell n1.out 0).trans rfl, (blk_cell n1.out 1).trans rfl, (blk_cell n1.out 2).trans rfl, M4.out.drew⟩ (fun hHeld => ?_)
    have HB5 := Aside0.mk (below_step n0.out (below_drew (Below.refl _ _)))
    have BX5 := Aside0.mk (blk_drew n1.out)
    generalize w4.drew = w5 at HB5 BX5 hHeld ⊢
    clear n0 n1 BG4 M4
    refine Pt.pu 0 (some 65) (Pt.bm 11 1) (by kernel_rfl) ?_
    refine Pt.pu 1 (some 66) (Pt.bm 11 3) (by kernel_rfl) ?_
    refine Pt.pu 2 (some 67) (Pt.bm 11 7) (by kernel_rfl) ?_
    refine Pt.tk 3 (some 68) (Pt.bm 11 15) rfl rfl (by kernel_rfl) hHeld (Or.inl ⟨by rfl, by rintro w' ⟨s0, s1, s2, s3, sM⟩; go_simp; with_reducible rfl⟩) ?_
    refine Pt.tk 4 (some 69) (Pt.bm 11 31) rfl rfl (by kernel_rfl) hHeld (Or.inl ⟨by rfl, by rintro w' ⟨s0, s1, s2, s3, sM⟩; go_simp; with_reducible rfl⟩) ?_
    cases hs : s.memo (op, a, b) with
    | some n =>
     have H2 := H.out
     rw [hs] at H2
     obtain ⟨rfl, rfl⟩ := Prod.mk.inj (Option.some.inj H2)
     clear H2
     refine Pt.tk 5 (some 70) (Pt.bm 11 63) rfl rfl (by kernel_rfl) hHeld (Or.inl ⟨by rfl, by rintro w' ⟨s0, s1, s2, s3, sM⟩; exact Mp.run_some (.tmp 68) (.tmp 69) rfl rfl sM key3 Try.underlying111 zero_int (op, a, b) rfl C4.out hs⟩) ?_
     refine Pt.pu 6 (some 64) (Pt.bm 11 127) (by kernel_rfl) ?_
     refine Pt.pu 7 (some 71) (Pt.bm 11 255) (by kernel_rfl) ?_
     refine Pt.pu 8 (some 72) (Pt.bm 11 511) (by kernel_rfl) ?_
     refine Pt.pu 9 (some 10) (Pt.bm 11 1023) (by kernel_rfl) ?_
     refine Pt.pu 10 (some 11) (Pt.bm 11 2047) (by kernel_rfl) ?_
     refine done_ (by kernel_rfl) ?_
     clear hHeld
     go_wp2
     go_ret
     exact ⟨rfl, HI.out.below HB5.out, below_then HB.out HB.out.size HB5.out, Kept.of_below HB5.out _⟩
    | none =>
     have H2 := H.out
     rw [hs] at H2
     refine Pt.tk 5 (some 70) (Pt.bm 11 63) rfl rfl (by kernel_rfl) hHeld (Or.inl ⟨by rfl, by rintro w' ⟨s0, s1, s2, s3, sM⟩; exact Mp.run_none (.tmp 68) (.tmp 69) rfl rfl sM key3 Try.underlying111 zero_int (op, a, b) rfl C4.out hs⟩) ?_
     refine Pt.pu 6 (some 64) (Pt.bm 11 127) (by kernel_rfl) ?_
     refine Pt.pu 7 (some 71) (Pt.bm 11 255) (by kernel_rfl) ?_
     refine Pt.pu 8 (some 72) (Pt.bm 11 511) (by kernel_rfl) ?_
     refine Pt.pu 9 (some 10) (Pt.bm 11 1023) (by kernel_rfl) ?_
     refine Pt.pu 10 (some 11) (Pt.bm 11 2047) (by kernel_rfl) ?_
     refine done_ (by kernel_rfl) ?_
     clear hHeld
     obtain ⟨va, hva, H3⟩ := Option.bind_eq_some_iff.mp H2
     clear H2
     have HVA := Aside0.mk hva
     clear hva
     obtain ⟨v, hv, H3⟩ := Option.bind_eq_some_iff.mp H3
     have HV := Aside0.mk hv
     clear hv
     simp only [impl_forking_apply.two] at H3
     obtain ⟨a0, h_a0, H3⟩ := Option.bind_eq_some_iff.mp H3
     have H_a0 := Aside0.mk h_a0
     clear h_a0
     obtain ⟨b0, h_b0, H3⟩ := Option.bind_eq_some_iff.mp H3
     have H_b0 := Aside0.mk h_b0
     clear h_b0
     obtain ⟨p1, h_p1, H3⟩ := Option.bind_eq_some_iff.mp H3
     have H_p1 := Aside0.mk h_p1
     clear h_p1
     obtain ⟨a1, h_a1, H3⟩ := Option.bind_eq_some_iff.mp H3
     have H_a1 := Aside0.mk h_a1
     clear h_a1
     obtain ⟨b1_, h_b1_, H3⟩ := Option.bind_eq_some_iff.mp H3
     have H_b1_ := Aside0.mk h_b1_
     clear h_b1_
     obtain ⟨p2, h_p2, H3⟩ := Option.bind_eq_some_iff.mp H3
     have H_p2 := Aside0.mk h_p2
     clear h_p2
     obtain ⟨s1, lo⟩ := p1
     obtain ⟨s2, hi⟩ := p2
     simp only at H_a1 H_b1_ H_p2 H3
     have H4 := Aside0.mk H3
     clear H3
     have HFX : Aside0 (∀ w' : World, w5.heap.size ≤ w'.heap.size → ∀ k_, w'.heap.size ≤ k_ → ok k_ ∧ k_ ≠ gb) := ⟨fun w' hw k_ hk => ⟨HF.out k_ (Nat.le_trans HB5.out.size (Nat.le_trans hw hk)), fun e_ => by have := blk_lt BX5.out; omega⟩⟩
     have I5 : Aside0 (IsF w5 w0.heap.size (fun k_ => ok k_ ∧ k_ ≠ gb) g s) := ⟨(HI.out.bound.mono (fun k_ hk => ⟨hk.1, fun e_ => by have := HGB.out; have := hk.2.2; omega⟩)).below HB5.out⟩
     have BL5 := Aside0.mk (below_then HB.out HB.out.size HB5.out)
     have BG5 := Aside0.mk (blk_below BG.out HB5.out)
     have HR5 := Aside0.mk (Kd.C_below HR.out HB5.out)
     have hg50 : w5.cell? ⟨g, 0, none⟩ = some (.int .i64 s.vars) := (blk_cell BG5.out 0).trans rfl
     have hg51 : w5.cell? ⟨g, 1, none⟩ = some (.slice A s.forks.length c) := (blk_cell BG5.out 1).trans rfl
     have GN := Aside0.mk (show g ≠ gb from fun e_ => by have := GL.out.2; have := HGB.out; omega)
     have K5 := Aside0.mk (Kept.refl w5 (fun k_ => ok k_ ∧ k_ ≠ gb))
     go_upto_if 82 with (first | (go_at_call 54; (with_reducible refine (impl_Diagram_varAt.calls s.vars A c s.forks a va _ HR5.out HC.out HVA.out).mono ?_); rintro e w6 ⟨rfl, hb⟩; have I6 := Aside0.mk (I5.out.below hb); have BX6 := Aside0.mk (blk_below BX5.out hb); have BL6 := Aside0.mk (below_then BL5.out BL5.out.size hb); have K6 := Aside0.mk ((K5.out).below hb); have BG6 := Aside0.mk (blk_below BG5.out hb); have HR6 := Aside0.mk (Kd.C_below HR5.out hb); have hg60 : w6.cell? ⟨g, 0, none⟩ = some (.int .i64 s.vars) := (blk_cell BG6.out 0).trans rfl; have hg61 : w6.cell? ⟨g, 1, none⟩ = some (.slice A s.forks.length c) := (blk_cell BG6.out 1).trans rfl; clear hb))
     go_cut [12] from 59 to 90 (fun v12 wc => v12 = .int .i64 v ∧ Aside0 (IsF wc w0.heap.size (fun k_ => ok k_ ∧ k_ ≠ gb) g s) ∧ Aside0 (wc.heap[gb]? = some (.cells #[.int .i64 op, .int .i64 a, .int .i64 b] 128 (0, 0))) ∧ Aside0 (Below w0.heap.size w0 wc) ∧ Aside0 (Kept w5 wc (fun k_ => ok k_ ∧ k_ ≠ gb)))
     case first =>
      by_cases h0 : op = 0
      ·have e2 : (op != 0) = false := by simp [h0]
       have hv := HV.out
       rw [if_pos h0] at hv
       obtain rfl := Option.some.inj hv
       clear hv h0
       go_wp2_with fail
       go_meet
       case rel => exact ⟨rfl, I6, BX6, BL6, K6⟩
      ·have e2 : (op != 0) = true := bne_iff_ne.mpr h0
       have hv := HV.out
       rw [if_neg h0] at hv
       obtain ⟨vb, hvb, hv⟩ := Option.bind_eq_some_iff.mp hv
       have HVB := Aside0.mk hvb
       have hvv := Option.some.inj hv
       clear hvb hv h0
       go_wp2_with (go_at_call 54; (with_reducible refine (impl_Diagram_varAt.calls s.vars A c s.forks b vb _ HR6.out HC.out HVB.out).mono ?_); rintro e w7 ⟨rfl, hb⟩; have I7 := Aside0.mk (I6.out.below hb); have BX7 := Aside0.mk (blk_below BX6.out hb); have BL7 := Aside0.mk (below_then BL6.out BL6.out.size hb); have K7 := Aside0.mk ((K6.out).below hb); clear hb)
       go_meet
       case rel => exact ⟨by first | rfl | rw [hvv] | simp [hvv], I7, BX7, BL7, K7⟩
     case rest =>
      obtain ⟨rfl, I7, BX7, BL7, K7⟩ := hcut
      clear hg50 hg51 hg60 hg61
      cases hfull : s2.full with
      | true =>
       have H5 := H4.out
       rw [hfull] at H5
       rw [if_pos rfl] at H5
       obtain ⟨rfl, rfl⟩ := Prod.mk.inj (Option.some.inj H5)
       clear H5
       go_wp2_with (first | (go_at_call 100; (with_reducible refine (impl_forking_goes.calls s a v 0 _ w0.heap.size _ g _ I7.out H_a0.out).mono ?_); rintro e w8 ⟨rfl, hb⟩; have I8 := Aside0.mk (I7.out.below hb); have BX8 := Aside0.mk (blk_below BX7.out hb); have BL8 := Aside0.mk (below_then BL7.out BL7.out.size hb); have K8 := Aside0.mk ((K7.out).below hb); clear hb) | (go_at_call 100; (with_reducible refine (impl_forking_goes.calls s b v 0 _ w0.heap.size _ g _ I8.out H_b0.out).mono ?_); rintro e w9 ⟨rfl, hb⟩; have I9 := Aside0.mk (I8.out.below hb); have BX9 := Aside0.mk (blk_below BX8.out hb); have BL9 := Aside0.mk (below_then BL8.out BL8.out.size hb); have K9 := Aside0.mk ((K8.out).below hb); clear hb) | (go_at_call 103; have hfx_ := HFX.out _ K9.out.1; (with_reducible refine (ih.out s s1 op a0 b0 lo _ g w0 _ BL9.out I9.out hfx_ H_p1.out).mono ?_); clear hfx_; rintro e w10 ⟨rfl, hi_, hb_, hk_⟩; have I10 := Aside0.mk hi_; have BL10 := Aside0.mk hb_; have BX10 := Aside0.mk (blk_kept BX9.out hk_ (fun h_ => h_.2 rfl)); have K10 := Aside0.mk (K9.out.then_ hk_ (fun _ h_ => .inl h_)); clear hi_ hb_ hk_) | (go_at_call 100; (with_reducible refine (impl_forking_goes.calls s1 a v 1 _ w0.heap.size _ g _ I10.out H_a1.out).mono ?_); rintro e w11 ⟨rfl, hb⟩; have I11 := Aside0.mk (I10.out.below hb); have BX11 := Aside0.mk (blk_below BX10.out hb); have BL11 := Aside0.mk (below_then BL10.out BL10.out.size hb); have K11 := Aside0.mk ((K10.out).below hb); clear hb) | (go_at_call 100; (with_reducible refine (impl_forking_goes.calls s1 b v 1 _ w0.heap.size _ g _ I11.out H_b1_.out).mono ?_); rintro e w12 ⟨rfl, hb⟩; have I12 := Aside0.mk (I11.out.below hb); have BX12 := Aside0.mk (blk_below BX11.out hb); have BL12 := Aside0.mk (below_then BL11.out BL11.out.size hb); have K12 := Aside0.mk ((K11.out).below hb); clear hb) | (go_at_call 103; have hfx_ := HFX.out _ K12.out.1; (with_reducible refine (ih.out s1 s2 op a1 b1_ hi _ g w0 _ BL12.out I12.out hfx_ H_p2.out).mono ?_); clear hfx_; rintro e w13 ⟨rfl, hi_, hb_, hk_⟩; have I13 := Aside0.mk hi_; have BL13 := Aside0.mk hb_; have BX13 := Aside0.mk (blk_kept BX12.out hk_ (fun h_ => h_.2 rfl)); have K13 := Aside0.mk (K12.out.then_ hk_ (fun _ h_ => .inl h_)); clear hi_ hb_ hk_; obtain ⟨uu, d1, d2, hgg, _⟩ := I13.out; have hfl : w13.cell? ⟨g, 3, none⟩ = some (.bool true) := (blk_cell hgg 3).trans (by rw [hfull]; rfl); clear hgg))
       go_ret
       exact ⟨rfl, I13.out.mono (fun _ h_ => h_.1), BL13.out, (Kept.of_below HB5.out ok).then_ K13.out (fun _ h_ => .inl h_.1)⟩
      | false =>
       have H5 := H4.out
       rw [hfull] at H5
       rw [if_neg (by decide)] at H5
       obtain ⟨p3, h_p3, H5⟩ := Option.bind_eq_some_iff.mp H5
       obtain ⟨s3, nn⟩ := p3
       simp only at H5
       obtain ⟨rfl, rfl⟩ := Prod.mk.inj (Option.some.inj H5)
       have H_p3 := Aside0.mk h_p3
       clear H5 h_p3
       go_wp2_with (first | (go_at_call 100; (with_reducible refine (impl_forking_goes.calls s a v 0 _ w0.heap.size _ g _ I7.out H_a0.out).mono ?_); rintro e w8 ⟨rfl, hb⟩; have I8 := Aside0.mk (I7.out.below hb); have BX8 := Aside0.mk (blk_below BX7.out hb); have BL8 := Aside0.mk (below_then BL7.out BL7.out.size hb); have K8 := Aside0.mk ((K7.out).below hb); clear hb) | (go_at_call 100; (with_reducible refine (impl_forking_goes.calls s b v 0 _ w0.heap.size _ g _ I8.out H_b0.out).mono ?_); rintro e w9 ⟨rfl, hb⟩; have I9 := Aside0.mk (I8.out.below hb); have BX9 := Aside0.mk (blk_below BX8.out hb); have BL9 := Aside0.mk (below_then BL8.out BL8.out.size hb); have K9 := Aside0.mk ((K8.out).below hb); clear hb) | (go_at_call 103; have hfx_ := HFX.out _ K9.out.1; (with_reducible refine (ih.out s s1 op a0 b0 lo _ g w0 _ BL9.out I9.out hfx_ H_p1.out).mono ?_); clear hfx_; rintro e w10 ⟨rfl, hi_, hb_, hk_⟩; have I10 := Aside0.mk hi_; have BL10 := Aside0.mk hb_; have BX10 := Aside0.mk (blk_kept BX9.out hk_ (fun h_ => h_.2 rfl)); have K10 := Aside0.mk (K9.out.then_ hk_ (fun _ h_ => .inl h_)); clear hi_ hb_ hk_) | (go_at_call 100; (with_reducible refine (impl_forking_goes.calls s1 a v 1 _ w0.heap.size _ g _ I10.out H_a1.out).mono ?_); rintro e w11 ⟨rfl, hb⟩; have I11 := Aside0.mk (I10.out.below hb); have BX11 := Aside0.mk (blk_below BX10.out hb); have BL11 := Aside0.mk (below_then BL10.out BL10.out.size hb); have K11 := Aside0.mk ((K10.out).below hb); clear hb) | (go_at_call 100; (with_reducible refine (impl_forking_goes.calls s1 b v 1 _ w0.heap.size _ g _ I11.out H_b1_.out).mono ?_); rintro e w12 ⟨rfl, hb⟩; have I12 := Aside0.mk (I11.out.below hb); have BX12 := Aside0.mk (blk_below BX11.out hb); have BL12 := Aside0.mk (below_then BL11.out BL11.out.size hb); have K12 := Aside0.mk ((K11.out).below hb); clear hb) | (go_at_call 103; have hfx_ := HFX.out _ K12.out.1; (with_reducible refine (ih.out s1 s2 op a1 b1_ hi _ g w0 _ BL12.out I12.out hfx_ H_p2.out).mono ?_); clear hfx_; rintro e w13 ⟨rfl, hi_, hb_, hk_⟩; have I13 := Aside0.mk hi_; have BL13 := Aside0.mk hb_; have BX13 := Aside0.mk (blk_kept BX12.out hk_ (fun h_ => h_.2 rfl)); have K13 := Aside0.mk (K12.out.then_ hk_ (fun _ h_ => .inl h_)); clear hi_ hb_ hk_; obtain ⟨uu, d1, d2, hgg, _⟩ := I13.out; have hfl : w13.cell? ⟨g, 3, none⟩ = some (.bool false) := (blk_cell hgg 3).trans (by rw [hfull]; rfl); clear hgg) | (go_at_call 57; have hfx_ := HFX.out _ K13.out.1; (with_reducible refine (impl_forking_fork.calls s2 s3 v lo hi nn _ g w0 _ BL13.out I13.out hfx_ H_p3.out).mono ?_); clear hfx_; rintro e w14 ⟨rfl, hi_, hb_, hk_⟩; have I14 := Aside0.mk hi_; have BL14 := Aside0.mk hb_; have BX14 := Aside0.mk (blk_kept BX13.out hk_ (fun h_ => h_.2 rfl)); have K14 := Aside0.mk (K13.out.then_ hk_ (fun _ h_ => .inl h_)); clear hi_ hb_ hk_))
       obtain ⟨u3, q1, q2, hg3, hR3, hM3, hM3b, hne3, k1, k2, k3, k4, k5, k6⟩ := I14.out
       have BG14 := Aside0.mk hg3
       have M14 := Aside0.mk hM3b
       have KS := Aside0.mk (And.intro hne3 (And.intro k1 (And.intro k2 (And.intro k3 (And.intro k4 (And.intro k5 k6))))))
       have RR := Aside0.mk (And.intro hR3 hM3)
       clear hg3 hR3 hM3 hM3b hne3 k1 k2 k3 k4 k5 k6
       refine start_ (n := 7) (S := fun w' => w'.cell? ⟨g, 4, none⟩ = some (.map (some q2)) ∧ w'.cell? ⟨gb, 0, none⟩ = some (.int .i64 op) ∧ w'.cell? ⟨gb, 1, none⟩ = some (.int .i64 a) ∧ w'.cell? ⟨gb, 2, none⟩ = some (.int .i64 b)) (ds := [6]) (Pt.bm 7 0) (by kernel_rfl) rfl rfl ⟨(blk_cell BG14.out 4).trans rfl, (blk_cell BX14.out 0).trans rfl, (blk_cell BX14.out 1).trans rfl, (blk_cell BX14.out 2).trans rfl⟩ (fun hHeld => ?_)
       refine Pt.pu 0 (some 122) (Pt.bm 7 1) (by kernel_rfl) ?_
       refine Pt.pu 1 (some 123) (Pt.bm 7 3) (by kernel_rfl) ?_
       refine Pt.pu 2 (some 124) (Pt.bm 7 7) (by kernel_rfl) ?_
       refine Pt.tk 3 (some 125) (Pt.bm 7 15) rfl rfl (by kernel_rfl) hHeld (Or.inl ⟨by rfl, by rintro w' ⟨s0, s1, s2, s3⟩; go_simp; with_reducible rfl⟩) ?_
       refine Pt.tk 4 (some 126) (Pt.bm 7 31) rfl rfl (by kernel_rfl) hHeld (Or.inl ⟨by rfl, by rintro w' ⟨s0, s1, s2, s3⟩; go_simp; with_reducible rfl⟩) ?_
       refine Pt.pu 5 (some 127) (Pt.bm 7 63) (by kernel_rfl) ?_
       refine last_ (i := 6) (N := none) (Pt.bm 7 127) rfl rfl (by kernel_rfl) (by decide) (fun K hK => ?_)
       refine Mp.store_step (by rfl) rfl (.tmp 125) (.tmp 126) (.tmp 127) rfl rfl M14.out.drew key3 Try.underlying111 (op, a, b) rfl C4.out nn rfl ?_
       intro w16 hM16 hg16 hz16
       refine hK.out _ _ ?_
       clear hK K hHeld
       refine done_ (by kernel_rfl) ?_
       have hgd : w14.grownBy w16 (some q2) := ⟨hg16.os, hg16.tape, hg16.output, hg16.size, hg16.block⟩
       go_wp2
       go_ret
       obtain ⟨hne3, k1, k2, k3, k4, k5, k6⟩ := KS.out
       exact ⟨rfl, ⟨_, q1, q2, blk_grown BG14.out hgd (by simpa using (M14.out.ne_blk BG14.out).symm), Kd.R_mono (Kd.R_map RR.out.1 M14.out hgd) (fun _ h_ => h_.1), RR.out.2.grown hgd (by simpa using hne3), hM16, hne3, k1.1, k2.1, k3.1, k4, k5, k6⟩, pw_below_grown BL14.out (some q2) BL14.out.size hgd (fun k_ hk => by cases hk; exact k6), Kept.of_grown hgd ((Kept.of_below HB5.out ok).then_ K14.out (fun _ h_ => .inl h_.1)) (fun k_ hk => .inl (by cases hk; exact k3.1))⟩
  ·rw [if_neg c4] at h
   cases h

/-! ### impl_applied: function 71 -/
def impl_applied.f (k : Nat) (a0_0 : Int) (l0_1 : List S71) (op : Int) (a : Int) (b : Int) : Option (Int × List S71 × Int) := (impl_DiagramValid.f a0_0 l0_1).bind fun t0 => if t0 = false then some (0, [], -1) else (impl_Diagram_isPlace.f a0_0 l0_1 a).bind fun t1 => if t1 = false then some (0, [], -1) else (impl_Diagram_isPlace.f a0_0 l0_1 b).bind fun t2 => if t2 = false then some (0, [], -1) else (impl_forkingOf.f a0_0 l0_1).bind fun s => (impl_forking_apply.f k s op a b).bind fun p => impl_forking_done.f p.1 p.2
theorem impl_applied.mono : ∀ a0_0 l0_1 op a b k, LeO (impl_applied.f k a0_0 l0_1 op a b) (impl_applied.f (k + 1) a0_0 l0_1 op a b) := fun a0_0 l0_1 op a b k => LeO.bind (LeO.refl _) (fun _ => LeO.ite (LeO.refl _) (LeO.bind (LeO.refl _) (fun _ => LeO.ite (LeO.refl _) (LeO.bind (LeO.refl _) (fun _ => LeO.ite (LeO.refl _) (LeO.bind (LeO.refl _) (fun _ => LeO.bind (impl_forking_apply.mono _ _ _ _ k) (fun _ => LeO.refl _))))))))
set_option maxHeartbeats 8000000 in
set_option maxRecDepth 100000 in
theorem impl_applied.calls (k : Nat) (a0_0 : Int) (A0_1 : Option Addr) (c0_1 : Nat) (l0_1 : List S71) (op : Int) (a : Int) (b : Int) (r1 : Int) (r2 : List S71) (r3 : Int) (w : World) (hr : Kd.C k71 w A0_1 l0_1.length l0_1) (hc : l0_1.length ≤ c0_1) (h : impl_applied.f k a0_0 l0_1 op a b = some (r1, r2, r3)) :
  Calls Try.prog 71 #[.agg #[.int .i64 a0_0, .slice A0_1 l0_1.length c0_1], .int .i64 op, .int .i64 a, .int .i64 b] w fun e w' => ∃ v1_ : Value, e = .returned (.tuple #[.agg #[.int .i64 r1, v1_], .int .i64 r3]) ∧ Kd.R k71 71 w' w.heap.size (fun _ => True) v1_ r2 ∧ Below w.heap.size w w' := by
 have hu25 := Try.underlying25
 have HR := Aside0.mk hr
 have HC := Aside0.mk hc
 unfold impl_applied.f at h
 clear hr hc
 obtain ⟨t0, h0, h_⟩ := Option.bind_eq_some_iff.mp h
 clear h
 have h := h_
 have T0 := Aside0.mk h0
 clear h0 h_
 cases t0 with
 | false =>
  rw [if_pos rfl] at h
  simp only [Option.some.injEq, Prod.mk.injEq] at h
  obtain ⟨rfl, rfl, rfl⟩ := h
  go_enter Try.func71, Try.ntmps71
  go_wp2_with (first | ((with_reducible refine gate_dst (N := 4) rfl ?_); refine box_event ?hg (N := 4) ?hd (cs := #[.int .i64 a0_0, .slice A0_1 l0_1.length c0_1]) (t := 25) ?hr ?_; (case hd => rfl); (case hg => rfl); (case hr => first | (go_simp; done) | (go_simp; rfl)); intro g0 hg0 w1 hbox hb; have BD1 := Aside0.mk hbox; have HB1 := Aside0.mk hb; clear hg0 hbox hb) | ((with_reducible refine gate_dst (N := 8) rfl ?_); refine box_event ?hg (N := 8) ?hd (cs := #[.int .i64 0, .slice none 0 0]) (t := 25) ?hr ?_; (case hd => rfl); (case hg => rfl); (case hr => first | (go_simp; done) | (go_simp; rfl)); intro gr hgr w2 hbox hb; have GR := Aside0.mk (show w.heap.size ≤ gr by rw [hgr]; exact HB1.out.size); have BR2 := Aside0.mk hbox; have BD2 := Aside0.mk (blk_below BD1.out hb); have HB2 := Aside0.mk (below_step HB1.out hb); have d20 : w2.cell? ⟨g0, 0, none⟩ = some (.int .i64 a0_0) := (blk_cell BD2.out 0).trans rfl; have d21 : w2.cell? ⟨g0, 1, none⟩ = some (.slice A0_1 l0_1.length c0_1) := (blk_cell BD2.out 1).trans rfl; clear hgr hbox hb) | (go_at_call 17; (with_reducible refine (impl_DiagramValid.calls a0_0 A0_1 c0_1 l0_1 false _ (Kd.C_below HR.out HB2.out) HC.out T0.out).mono ?_); rintro e w3 ⟨rfl, hb⟩; have HB3 := Aside0.mk (below_step HB2.out hb); have BD3 := Aside0.mk (blk_below BD2.out hb); have BR3 := Aside0.mk (blk_below BR2.out hb); have d30 : w3.cell? ⟨g0, 0, none⟩ = some (.int .i64 a0_0) := (blk_cell BD3.out 0).trans rfl; have d31 : w3.cell? ⟨g0, 1, none⟩ = some (.slice A0_1 l0_1.length c0_1) := (blk_cell BD3.out 1).trans rfl; have r30 : w3.cell? ⟨gr, 0, none⟩ = some (.int .i64 0) := (blk_cell BR3.out 0).trans rfl; have r31 : w3.cell? ⟨gr, 1, none⟩ = some (.slice none 0 0) := (blk_cell BR3.out 1).trans rfl; have q30 := blk_frozen BR3.out 0; have q31 := blk_frozen BR3.out 1; clear hb))
  refine bodyPost_ret (results_ct rfl _ _ gr 25 #[.int .i64 0, .slice none 0 0] (0, 0) _ rfl (blk_put (blk_put BR3.out 0 _ rfl) 1 _ rfl) Try.underlying25 rfl (by kernel_rfl)) rfl ?_
  exact ⟨_, rfl, Kd.R_nil _ _ _ _ _, below_set (below_set HB3.out GR.out) GR.out⟩
 | true =>
  rw [if_neg (by decide)] at h
  obtain ⟨t1, h1, h_⟩ := Option.bind_eq_some_iff.mp h
  clear h
  have h := h_
  have T1 := Aside0.mk h1
  clear h1 h_
  cases t1 with
  | false =>
   rw [if_pos rfl] at h
   simp only [Option.some.injEq, Prod.mk.injEq] at h
   obtain ⟨rfl, rfl, rfl⟩ := h
   go_enter Try.func71, Try.ntmps71
   go_wp2_with (first | ((with_reducible refine gate_dst (N := 4) rfl ?_); refine box_event ?hg (N := 4) ?hd (cs := #[.int .i64 a0_0, .slice A0_1 l0_1.length c0_1]) (t := 25) ?hr ?_; (case hd => rfl); (case hg => rfl); (case hr => first | (go_simp; done) | (go_simp; rfl)); intro g0 hg0 w1 hbox hb; have BD1 := Aside0.mk hbox; have HB1 := Aside0.mk hb; clear hg0 hbox hb) | ((with_reducible refine gate_dst (N := 8) rfl ?_); refine box_event ?hg (N := 8) ?hd (cs := #[.int .i64 0, .slice none 0 0]) (t := 25) ?hr ?_; (case hd => rfl); (case hg => rfl); (case hr => first | (go_simp; done) | (go_simp; rfl)); intro gr hgr w2 hbox hb; have GR := Aside0.mk (show w.heap.size ≤ gr by rw [hgr]; exact HB1.out.size); have BR2 := Aside0.mk hbox; have BD2 := Aside0.mk (blk_below BD1.out hb); have HB2 := Aside0.mk (below_step HB1.out hb); have d20 : w2.cell? ⟨g0, 0, none⟩ = some (.int .i64 a0_0) := (blk_cell BD2.out 0).trans rfl; have d21 : w2.cell? ⟨g0, 1, none⟩ = some (.slice A0_1 l0_1.length c0_1) := (blk_cell BD2.out 1).trans rfl; clear hgr hbox hb) | (go_at_call 17; (with_reducible refine (impl_DiagramValid.calls a0_0 A0_1 c0_1 l0_1 true _ (Kd.C_below HR.out HB2.out) HC.out T0.out).mono ?_); rintro e w3 ⟨rfl, hb⟩; have HB3 := Aside0.mk (below_step HB2.out hb); have BD3 := Aside0.mk (blk_below BD2.out hb); have BR3 := Aside0.mk (blk_below BR2.out hb); have d30 : w3.cell? ⟨g0, 0, none⟩ = some (.int .i64 a0_0) := (blk_cell BD3.out 0).trans rfl; have d31 : w3.cell? ⟨g0, 1, none⟩ = some (.slice A0_1 l0_1.length c0_1) := (blk_cell BD3.out 1).trans rfl; have r30 : w3.cell? ⟨gr, 0, none⟩ = some (.int .i64 0) := (blk_cell BR3.out 0).trans rfl; have r31 : w3.cell? ⟨gr, 1, none⟩ = some (.slice none 0 0) := (blk_cell BR3.out 1).trans rfl; have q30 := blk_frozen BR3.out 0; have q31 := blk_frozen BR3.out 1; clear hb) | (go_at_call 53; (with_reducible refine (impl_Diagram_isPlace.calls a0_0 A0_1 c0_1 l0_1 a false _ (Kd.C_below HR.out HB3.out) HC.out T1.out).mono ?_); rintro e w4 ⟨rfl, hb⟩; have HB4 := Aside0.mk (below_step HB3.out hb); have BD4 := Aside0.mk (blk_below BD3.out hb); have BR4 := Aside0.mk (blk_below BR3.out hb); have d40 : w4.cell? ⟨g0, 0, none⟩ = some (.int .i64 a0_0) := (blk_cell BD4.out 0).trans rfl; have d41 : w4.cell? ⟨g0, 1, none⟩ = some (.slice A0_1 l0_1.length c0_1) := (blk_cell BD4.out 1).trans rfl; have r40 : w4.cell? ⟨gr, 0, none⟩ = some (.int .i64 0) := (blk_cell BR4.out 0).trans rfl; have r41 : w4.cell? ⟨gr, 1, none⟩ = some (.slice none 0 0) := (blk_cell BR4.out 1).trans rfl; have q40 := blk_frozen BR4.out 0; have q41 := blk_frozen BR4.out 1; clear hb))
   refine bodyPost_ret (results_ct rfl _ _ gr 25 #[.int .i64 0, .slice none 0 0] (0, 0) _ rfl (blk_put (blk_put BR4.out 0 _ rfl) 1 _ rfl) Try.underlying25 rfl (by kernel_rfl)) rfl ?_
   exact ⟨_, rfl, Kd.R_nil _ _ _ _ _, below_set (below_set HB4.out GR.out) GR.out⟩
  | true =>
   rw [if_neg (by decide)] at h
   obtain ⟨t2, h2, h_⟩ := Option.bind_eq_some_iff.mp h
   clear h
   have h := h_
   have T2 := Aside0.mk h2
   clear h2 h_
   cases t2 with
   | false =>
    rw [if_pos rfl] at h
    simp only [Option.some.injEq, Prod.mk.injEq] at h
    obtain ⟨rfl, rfl, rfl⟩ := h
    go_enter Try.func71, Try.ntmps71
    go_wp2_with (first | ((with_reducible refine gate_dst (N := 4) rfl ?_); refine box_event ?hg (N := 4) ?hd (cs := #[.int .i64 a0_0, .slice A0_1 l0_1.length c0_1]) (t := 25) ?hr ?_; (case hd => rfl); (case hg => rfl); (case hr => first | (go_simp; done) | (go_simp; rfl)); intro g0 hg0 w1 hbox hb; have BD1 := Aside0.mk hbox; have HB1 := Aside0.mk hb; clear hg0 hbox hb) | ((with_reducible refine gate_dst (N := 8) rfl ?_); refine box_event ?hg (N := 8) ?hd (cs := #[.int .i64 0, .slice none 0 0]) (t := 25) ?hr ?_; (case hd => rfl); (case hg => rfl); (case hr => first | (go_simp; done) | (go_simp; rfl)); intro gr hgr w2 hbox hb; have GR := Aside0.mk (show w.heap.size ≤ gr by rw [hgr]; exact HB1.out.size); have BR2 := Aside0.mk hbox; have BD2 := Aside0.mk (blk_below BD1.out hb); have HB2 := Aside0.mk (below_step HB1.out hb); have d20 : w2.cell? ⟨g0, 0, none⟩ = some (.int .i64 a0_0) := (blk_cell BD2.out 0).trans rfl; have d21 : w2.cell? ⟨g0, 1, none⟩ = some (.slice A0_1 l0_1.length c0_1) := (blk_cell BD2.out 1).trans rfl; clear hgr hbox hb) | (go_at_call 17; (with_reducible refine (impl_DiagramValid.calls a0_0 A0_1 c0_1 l0_1 true _ (Kd.C_below HR.out HB2.out) HC.out T0.out).mono ?_); rintro e w3 ⟨rfl, hb⟩; have HB3 := Aside0.mk (below_step HB2.out hb); have BD3 := Aside0.mk (blk_below BD2.out hb); have BR3 := Aside0.mk (blk_below BR2.out hb); have d30 : w3.cell? ⟨g0, 0, none⟩ = some (.int .i64 a0_0) := (blk_cell BD3.out 0).trans rfl; have d31 : w3.cell? ⟨g0, 1, none⟩ = some (.slice A0_1 l0_1.length c0_1) := (blk_cell BD3.out 1).trans rfl; have r30 : w3.cell? ⟨gr, 0, none⟩ = some (.int .i64 0) := (blk_cell BR3.out 0).trans rfl; have r31 : w3.cell? ⟨gr, 1, none⟩ = some (.slice none 0 0) := (blk_cell BR3.out 1).trans rfl; have q30 := blk_frozen BR3.out 0; have q31 := blk_frozen BR3.out 1; clear hb) | (go_at_call 53; (with_reducible refine (impl_Diagram_isPlace.calls a0_0 A0_1 c0_1 l0_1 a true _ (Kd.C_below HR.out HB3.out) HC.out T1.out).mono ?_); rintro e w4 ⟨rfl, hb⟩; have HB4 := Aside0.mk (below_step HB3.out hb); have BD4 := Aside0.mk (blk_below BD3.out hb); have BR4 := Aside0.mk (blk_below BR3.out hb); have d40 : w4.cell? ⟨g0, 0, none⟩ = some (.int .i64 a0_0) := (blk_cell BD4.out 0).trans rfl; have d41 : w4.cell? ⟨g0, 1, none⟩ = some (.slice A0_1 l0_1.length c0_1) := (blk_cell BD4.out 1).trans rfl; have r40 : w4.cell? ⟨gr, 0, none⟩ = some (.int .i64 0) := (blk_cell BR4.out 0).trans rfl; have r41 : w4.cell? ⟨gr, 1, none⟩ = some (.slice none 0 0) := (blk_cell BR4.out 1).trans rfl; have q40 := blk_frozen BR4.out 0; have q41 := blk_frozen BR4.out 1; clear hb) | (go_at_call 53; (with_reducible refine (impl_Diagram_isPlace.calls a0_0 A0_1 c0_1 l0_1 b false _ (Kd.C_below HR.out HB4.out) HC.out T2.out).mono ?_); rintro e w5 ⟨rfl, hb⟩; have HB5 := Aside0.mk (below_step HB4.out hb); have BD5 := Aside0.mk (blk_below BD4.out hb); have BR5 := Aside0.mk (blk_below BR4.out hb); have d50 : w5.cell? ⟨g0, 0, none⟩ = some (.int .i64 a0_0) := (blk_cell BD5.out 0).trans rfl; have d51 : w5.cell? ⟨g0, 1, none⟩ = some (.slice A0_1 l0_1.length c0_1) := (blk_cell BD5.out 1).trans rfl; have r50 : w5.cell? ⟨gr, 0, none⟩ = some (.int .i64 0) := (blk_cell BR5.out 0).trans rfl; have r51 : w5.cell? ⟨gr, 1, none⟩ = some (.slice none 0 0) := (blk_cell BR5.out 1).trans rfl; have q50 := blk_frozen BR5.out 0; have q51 := blk_frozen BR5.out 1; clear hb))
    refine bodyPost_ret (results_ct rfl _ _ gr 25 #[.int .i64 0, .slice none 0 0] (0, 0) _ rfl (blk_put (blk_put BR5.out 0 _ rfl) 1 _ rfl) Try.underlying25 rfl (by kernel_rfl)) rfl ?_
    exact ⟨_, rfl, Kd.R_nil _ _ _ _ _, below_set (below_set HB5.out GR.out) GR.out⟩
   | true =>
    rw [if_neg (by decide)] at h
    obtain ⟨s, hs, h_⟩ := Option.bind_eq_some_iff.mp h
    obtain ⟨⟨s2, r⟩, hp, hd⟩ := Option.bind_eq_some_iff.mp h_
    have TS := Aside0.mk hs
    have TP := Aside0.mk hp
    have TD := Aside0.mk hd
    clear h h_ hs hp hd
    go_enter Try.func71, Try.ntmps71
    go_wp2_with (first | ((with_reducible refine gate_dst (N := 4) rfl ?_); refine box_event ?hg (N := 4) ?hd (cs := #[.int .i64 a0_0, .slice A0_1 l0_1.length c0_1]) (t := 25) ?hr ?_; (case hd => rfl); (case hg => rfl); (case hr => first | (go_simp; done) | (go_simp; rfl)); intro g0 hg0 w1 hbox hb; have BD1 := Aside0.mk hbox; have HB1 := Aside0.mk hb; clear hg0 hbox hb) | ((with_reducible refine gate_dst (N := 8) rfl ?_); refine box_event ?hg (N := 8) ?hd (cs := #[.int .i64 0, .slice none 0 0]) (t := 25) ?hr ?_; (case hd => rfl); (case hg => rfl); (case hr => first | (go_simp; done) | (go_simp; rfl)); intro gr hgr w2 hbox hb; have GR := Aside0.mk (show w.heap.size ≤ gr by rw [hgr]; exact HB1.out.size); have BR2 := Aside0.mk hbox; have BD2 := Aside0.mk (blk_below BD1.out hb); have HB2 := Aside0.mk (below_step HB1.out hb); have d20 : w2.cell? ⟨g0, 0, none⟩ = some (.int .i64 a0_0) := (blk_cell BD2.out 0).trans rfl; have d21 : w2.cell? ⟨g0, 1, none⟩ = some (.slice A0_1 l0_1.length c0_1) := (blk_cell BD2.out 1).trans rfl; clear hgr hbox hb) | (go_at_call 17; (with_reducible refine (impl_DiagramValid.calls a0_0 A0_1 c0_1 l0_1 true _ (Kd.C_below HR.out HB2.out) HC.out T0.out).mono ?_); rintro e w3 ⟨rfl, hb⟩; have HB3 := Aside0.mk (below_step HB2.out hb); have BD3 := Aside0.mk (blk_below BD2.out hb); have BR3 := Aside0.mk (blk_below BR2.out hb); have d30 : w3.cell? ⟨g0, 0, none⟩ = some (.int .i64 a0_0) := (blk_cell BD3.out 0).trans rfl; have d31 : w3.cell? ⟨g0, 1, none⟩ = some (.slice A0_1 l0_1.length c0_1) := (blk_cell BD3.out 1).trans rfl; have r30 : w3.cell? ⟨gr, 0, none⟩ = some (.int .i64 0) := (blk_cell BR3.out 0).trans rfl; have r31 : w3.cell? ⟨gr, 1, none⟩ = some (.slice none 0 0) := (blk_cell BR3.out 1).trans rfl; have q30 := blk_frozen BR3.out 0; have q31 := blk_frozen BR3.out 1; clear hb) | (go_at_call 53; (with_reducible refine (impl_Diagram_isPlace.calls a0_0 A0_1 c0_1 l0_1 a true _ (Kd.C_below HR.out HB3.out) HC.out T1.out).mono ?_); rintro e w4 ⟨rfl, hb⟩; have HB4 := Aside0.mk (below_step HB3.out hb); have BD4 := Aside0.mk (blk_below BD3.out hb); have BR4 := Aside0.mk (blk_below BR3.out hb); have d40 : w4.cell? ⟨g0, 0, none⟩ = some (.int .i64 a0_0) := (blk_cell BD4.out 0).trans rfl; have d41 : w4.cell? ⟨g0, 1, none⟩ = some (.slice A0_1 l0_1.length c0_1) := (blk_cell BD4.out 1).trans rfl; have r40 : w4.cell? ⟨gr, 0, none⟩ = some (.int .i64 0) := (blk_cell BR4.out 0).trans rfl; have r41 : w4.cell? ⟨gr, 1, none⟩ = some (.slice none 0 0) := (blk_cell BR4.out 1).trans rfl; have q40 := blk_frozen BR4.out 0; have q41 := blk_frozen BR4.out 1; clear hb) | (go_at_call 53; (with_reducible refine (impl_Diagram_isPlace.calls a0_0 A0_1 c0_1 l0_1 b true _ (Kd.C_below HR.out HB4.out) HC.out T2.out).mono ?_); rintro e w5 ⟨rfl, hb⟩; have HB5 := Aside0.mk (below_step HB4.out hb); have BD5 := Aside0.mk (blk_below BD4.out hb); have BR5 := Aside0.mk (blk_below BR4.out hb); have d50 : w5.cell? ⟨g0, 0, none⟩ = some (.int .i64 a0_0) := (blk_cell BD5.out 0).trans rfl; have d51 : w5.cell? ⟨g0, 1, none⟩ = some (.slice A0_1 l0_1.length c0_1) := (blk_cell BD5.out 1).trans rfl; have r50 : w5.cell? ⟨gr, 0, none⟩ = some (.int .i64 0) := (blk_cell BR5.out 0).trans rfl; have r51 : w5.cell? ⟨gr, 1, none⟩ = some (.slice none 0 0) := (blk_cell BR5.out 1).trans rfl; have q50 := blk_frozen BR5.out 0; have q51 := blk_frozen BR5.out 1; clear hb) | (go_at_call 55; (with_reducible refine (impl_forkingOf.calls a0_0 A0_1 c0_1 l0_1 s _ (Kd.C_below HR.out HB5.out) HC.out TS.out).mono ?_); rintro e wF ⟨g, rfl, hi, hb⟩; have IF := Aside0.mk hi; have HBF := Aside0.mk hb; clear hi hb) | (go_at_call 103; have hfx_ := (fun k_ (hk : wF.heap.size ≤ k_) => Nat.le_trans HBF.out.size hk); (with_reducible refine (impl_forking_apply.calls k s s2 op a b r _ g w5 _ HBF.out IF.out hfx_ TP.out).mono ?_); rintro e wG ⟨rfl, hi_, hb_, hk_⟩; have IG := Aside0.mk hi_; have HBG := Aside0.mk hb_; clear hi_ hb_ hk_ hfx_) | (go_at_call 56; (with_reducible refine (impl_forking_done.calls s2 r r1 r2 r3 _ _ g _ IG.out TD.out).mono ?_); rintro e wD ⟨v1, rfl, hR, hb⟩; obtain ⟨A5, c5, rfl⟩ := Kd.R_slice hR; have HBD := Aside0.mk (below_then HBG.out HBG.out.size hb); have BRD := Aside0.mk (blk_below BR5.out HBD.out); have RD := Aside0.mk (Kd.R_lower hR (Nat.le_trans HB5.out.size HBG.out.size)); have r90 : wD.cell? ⟨gr, 0, none⟩ = some (.int .i64 0) := (blk_cell BRD.out 0).trans rfl; have r91 : wD.cell? ⟨gr, 1, none⟩ = some (.slice none 0 0) := (blk_cell BRD.out 1).trans rfl; have q90 := blk_frozen BRD.out 0; have q91 := blk_frozen BRD.out 1; clear hR hb))
    refine bodyPost_ret (results_ct rfl _ _ gr 25 #[.int .i64 r1, .slice A5 r2.length c5] (0, 0) _ rfl (blk_put (blk_put BRD.out 0 _ rfl) 1 _ rfl) Try.underlying25 rfl (by kernel_rfl)) rfl ?_
    exact ⟨_, rfl, Kd.R_mono (Kd.R_far (p := ⟨gr, 1, none⟩) (Kd.R_far (p := ⟨gr, 0, none⟩) (Kd.R_types RD.out BRD.out (by decide)) (fun _ hk => hk.2) _) (fun _ hk => hk.2) _) (fun _ _ => trivial), below_set (below_set (below_step HB5.out HBD.out) GR.out) GR.out⟩

/-! ### impl_DiagramNot: function 25 -/
def impl_DiagramNot.f (k : Nat) (a0_0 : Int) (l0_1 : List (S71)) (a1 : Int) : Option (Int × (List (S71)) × Int) := (impl_applied.f k a0_0 l0_1 0 a1 1).bind fun bt210 => (some (bt210.1, bt210.2.1, bt210.2.2))
theorem impl_DiagramNot.mono : ∀ a0 a1 a2 k, LeO (impl_DiagramNot.f k a0 a1 a2) (impl_DiagramNot.f (k + 1) a0 a1 a2) := by
 intro a0 a1 a2 k
 unfold impl_DiagramNot.f
 repeat' first
   | (with_reducible exact impl_applied.mono _ _ _ _ _ _)
   | (with_reducible exact LeO.refl _)
   | (with_reducible exact LeO.none _)
   | (with_reducible refine LeO.ite ?_ ?_)
   | (with_reducible refine LeO.bind ?_ (fun _ => ?_))
set_option maxHeartbeats 8000000 in
set_option maxRecDepth 100000 in
theorem impl_DiagramNot.calls (k : Nat) (a0_0 : Int) (A0_1 : Option Addr) (c0_1 : Nat) (l0_1 : List (S71)) (a1 : Int) (r1 : Int) (r2 : List (S71)) (r3 : Int) (w : World) (hr0_1 : Kd.C k71 w A0_1 l0_1.length l0_1) (hc0_1 : l0_1.length ≤ c0_1) (h : impl_DiagramNot.f k a0_0 l0_1 a1 = some (r1, r2, r3)) :
  Calls Try.prog 25 #[.agg #[.int .i64 a0_0, .slice A0_1 l0_1.length c0_1], .int .i64 a1] w fun e w' => ∃ v1_ : Value, e = .returned (.tuple #[.agg #[.int .i64 r1, v1_], .int .i64 r3]) ∧ Kd.R k71 71 w' w.heap.size (fun _ => True) v1_ r2 ∧ Below w.heap.size w w' := by
 have hu25 := Try.underlying25
 have HR0_1 := Aside0.mk hr0_1
 have HC0_1 := Aside0.mk hc0_1
 clear hr0_1 hc0_1
 have HB := Aside0.mk (Below.refl w.heap.size w)
 have H : ((impl_applied.f k a0_0 l0_1 0 a1 1).bind fun bt210 => (some (bt210.1, bt210.2.1, bt210.2.2))) = some (r1, r2, r3) := h
 clear h
 replace H := Option.bind_eq_some_iff.mp H
 obtain ⟨⟨t210, t211, t214⟩, A30, H⟩ := H
 replace H : (some (t210, t211, t214)) = some (r1, r2, r3) := H
 have A3 := Aside0.mk A30
 clear A30
 simp only [Option.some.injEq, Prod.mk.injEq] at H
 obtain ⟨rfl, rfl, rfl⟩ := H
 go_enter Try.func25, Try.ntmps25
 go_wp2_with (first | ((with_reducible refine gate_dst (N := 2) rfl ?_); refine box_event ?hg (N := 2) ?hd (cs := #[.int .i64 a0_0, .slice A0_1 l0_1.length c0_1]) (t := 25) ?hr ?_; (case hd => rfl); (case hg => rfl); (case hr => first | (go_simp; done) | (go_simp; rfl)); intro gb208 hg w4 hbox hb; have n0_ := Aside0.mk (below_step (by repeat (first | (with_reducible first | exact HB.out | apply bwA | apply bwN | apply bwD) | exact HB.out)) hb); have n1_ := Aside0.mk (hbox); have n2_ := Aside0.mk ((by rw [hg]; exact (below_size (by repeat (first | (with_reducible first | exact HB.out | apply bwA | apply bwN | apply bwD) | exact HB.out))) : w.heap.size ≤ gb208)); have n3_ := Aside0.mk ((by rw [hg]; exact (below_size (by repeat (first | (with_reducible first | exact HB.out | apply bwA | apply bwN | apply bwD) | exact HB.out))) : w.heap.size ≤ gb208)); clear HB; have HB := n0_; have BK208 := n1_; have GW208 := n2_; have GE208 := n3_; clear n0_ n1_ n2_ n3_; clear hb hbox hg) | ((with_reducible refine gate_dst (N := 4) rfl ?_); refine box_event ?hg (N := 4) ?hd (cs := #[.int .i64 0, .slice none 0 0]) (t := 25) ?hr ?_; (case hd => rfl); (case hg => rfl); (case hr => first | (go_simp; done) | (go_simp; rfl)); intro gb209 hg w5 hbox hb; have n0_ := Aside0.mk (blk_below (g := gb208) (o := .cells #[.int .i64 a0_0, .slice A0_1 l0_1.length c0_1] 25 (0, 0)) (bvK BK208.out) hb); have n1_ := Aside0.mk (below_step (by repeat (first | (with_reducible first | exact HB.out | apply bwA | apply bwN | apply bwD | refine below_set ?_ GE208.out) | exact HB.out)) hb); have n2_ := Aside0.mk (hbox); have n3_ := Aside0.mk ((by rw [hg]; exact (below_size (by repeat (first | (with_reducible first | exact HB.out | apply bwA | apply bwN | apply bwD | refine below_set ?_ GE208.out) | exact HB.out))) : w.heap.size ≤ gb209)); have n4_ := Aside0.mk ((by rw [hg]; exact (below_size (by repeat (first | (with_reducible first | exact HB.out | apply bwA | apply bwN | apply bwD | refine below_set ?_ GE208.out) | exact HB.out))) : w.heap.size ≤ gb209)); have n5_ := Aside0.mk ((by rw [hg]; exact Nat.ne_of_lt (blk_lt (g := gb208) (o := .cells #[.int .i64 a0_0, .slice A0_1 l0_1.length c0_1] 25 (0, 0)) (bvK BK208.out)) : gb208 ≠ gb209)); have n6_ := Aside0.mk ((by rw [hg]; exact Nat.ne_of_gt (blk_lt (g := gb208) (o := .cells #[.int .i64 a0_0, .slice A0_1 l0_1.length c0_1] 25 (0, 0)) (bvK BK208.out)) : gb209 ≠ gb208)); clear BK208; clear HB; have BK208 := n0_; have HB := n1_; have BK209 := n2_; have GW209 := n3_; have GE209 := n4_; have NB208_209 := n5_; have NB209_208 := n6_; clear n0_ n1_ n2_ n3_ n4_ n5_ n6_; clear hb hbox hg; have hnb6 := NB208_209.out; have hnc6 := NB209_208.out; have hcz7_0 : w5.cell? ⟨gb208, 0, none⟩ = some (.int .i64 a0_0) := (blk_cell BK208.out 0).trans rfl; have hcz7_1 : w5.cell? ⟨gb208, 1, none⟩ = some (.slice A0_1 l0_1.length c0_1) := (blk_cell BK208.out 1).trans rfl; have hfz7_0 := blk_frozen BK208.out 0; have hfz7_1 := blk_frozen BK208.out 1) | ((with_reducible refine gate_callee (f := 71) rfl ?_); refine goesL_ (some 8) rfl rfl Try.func71 (by kernel_rfl) rfl #[.agg #[.int .i64 a0_0, .slice A0_1 l0_1.length c0_1], .int .i64 0, .int .i64 a1, .int .i64 1] rfl lmB ?_; (with_reducible refine (impl_applied.calls k a0_0 _ _ l0_1 0 a1 1 t210 t211 t214 _ ?side1 ?side2 A3.out).mono ?_); (case side1 => repeat (first | exact (Kd.C_below HR0_1.out HB.out) | (with_reducible refine Kd.C_alloc ?_ _) | (with_reducible refine Kd.C_drewN ?_ _) | (with_reducible refine Kd.C_drew ?_))); (case side2 => exact HC0_1.out); rintro e w8 ⟨v212, rfl, ho0, hb⟩; refine ⟨_, rfl, ?_⟩; have n0_ := Aside0.mk (Kd.R_lower ho0 (below_size (by repeat (first | (with_reducible first | exact HB.out | apply bwA | apply bwN | apply bwD | refine below_set ?_ GE208.out | refine below_set ?_ GE209.out) | exact HB.out)))); have n1_ := Aside0.mk (blk_below (g := gb208) (o := .cells #[.int .i64 a0_0, .slice A0_1 l0_1.length c0_1] 25 (0, 0)) (bvK BK208.out) hb); have n2_ := Aside0.mk (blk_below (g := gb209) (o := .cells #[.int .i64 0, .slice none 0 0] 25 (0, 0)) (bvK BK209.out) hb); have n3_ := Aside0.mk (below_step (by repeat (first | (with_reducible first | exact HB.out | apply bwA | apply bwN | apply bwD | refine below_set ?_ GE208.out | refine below_set ?_ GE209.out) | exact HB.out)) hb); clear BK208; clear BK209; clear HB; have HO213 := n0_; have BK208 := n1_; have BK209 := n2_; have HB := n3_; clear n0_ n1_ n2_ n3_; (try clear hb); (try clear hb2); (try clear hk); (try clear hi); (try clear ho0); have hcz9_0 : w8.cell? ⟨gb209, 0, none⟩ = some (.int .i64 0) := (blk_cell BK209.out 0).trans rfl; have hcz9_1 : w8.cell? ⟨gb209, 1, none⟩ = some (.slice none 0 0) := (blk_cell BK209.out 1).trans rfl; have hfz9_0 := blk_frozen BK209.out 0; have hfz9_1 := blk_frozen BK209.out 1; obtain ⟨Ao10, co10, eo10⟩ := Kd.R_slice HO213.out; subst eo10))
 refine bodyPost_ret (results_ct rfl _ _ gb209 25 #[.int .i64 t210, .slice Ao10 t211.length co10] (0, 0) _ rfl (by (with_reducible repeat first | apply bkN | apply bkD | apply bkA); refine blk_put (cs := #[.int .i64 t210, .slice none 0 0]) ?_ 1 _ rfl; (with_reducible repeat first | apply bkN | apply bkD | apply bkA); refine blk_put (cs := #[.int .i64 0, .slice none 0 0]) ?_ 0 _ rfl; (with_reducible repeat first | apply bkN | apply bkD | apply bkA); exact BK209.out) Try.underlying25 rfl (by kernel_rfl)) rfl ?_
 exact ⟨_, ers, by (with_reducible repeat first | apply rvA | apply rvN | apply rvD); exact Kd.R_mono (Kd.R_far (p := ⟨gb209, 1, none⟩) (Kd.R_far (p := ⟨gb209, 0, none⟩) (Kd.R_types HO213.out BK209.out (by decide)) (fun _ hk => hk.2) (.int .i64 t210)) (fun _ hk => hk.2) (.slice Ao10 t211.length co10)) (fun _ hk => trivial), by repeat (first | (with_reducible first | exact HB.out | apply bwA | apply bwN | apply bwD | refine below_set ?_ GE208.out | refine below_set ?_ GE209.out) | exact HB.out)⟩

/-! ### spec_l1In: function 65 -/
def spec_l1In.f (a0 : Int) (a1 : Int) (a2 : Int) : Option (Bool) := if a0 ≥ a1 then (some (decide (a0 ≤ a2))) else (some false)
set_option maxHeartbeats 8000000 in
set_option maxRecDepth 100000 in
theorem spec_l1In.calls (a0 : Int) (a1 : Int) (a2 : Int) (r : Bool) (w : World) (h : spec_l1In.f a0 a1 a2 = some r) :
  Calls Try.prog 65 #[.int .i64 a0, .int .i64 a1, .int .i64 a2] w fun e w' => e = .returned (.bool r) ∧ Drawn0 w w' := by
 have H : (if a0 ≥ a1 then (some (decide (a0 ≤ a2))) else (some false)) = some r := h
 clear h
 by_cases c4 : a0 ≥ a1
 ·rw [if_pos c4] at H
  have c4b0 : decide (a1 ≤ a0) = true := decide_eq_true c4
  clear c4
  obtain rfl := Option.some.inj H
  go_enter Try.func65, Try.ntmps65
  go_wp2
  go_ret
  exact ⟨by first | rfl | (simp; done) | (simp [*]; done), by repeat (first | exact Drawn0.refl _ | apply Drawn0.step)⟩
 ·rw [if_neg c4] at H
  have c4b0 : decide (a1 ≤ a0) = false := decide_eq_false c4
  clear c4
  obtain rfl := Option.some.inj H
  go_enter Try.func65, Try.ntmps65
  go_wp2
  go_ret
  exact ⟨by first | rfl | (simp; done) | (simp [*]; done), by repeat (first | exact Drawn0.refl _ | apply Drawn0.step)⟩

/-! ### spec_l8Place: function 50 -/
def spec_l8Place.f (a0_0 : Int) (l0_1 : List (S71)) (a1 : Int) : Option (Bool) := (spec_l1In.f a1 0 (wrap64 ((l0_1.length : Int) + 1))).bind fun t216 => (some t216)
set_option maxHeartbeats 8000000 in
set_option maxRecDepth 100000 in
theorem spec_l8Place.calls (a0_0 : Int) (A0_1 : Option Addr) (c0_1 : Nat) (l0_1 : List (S71)) (a1 : Int) (r : Bool) (w : World) (hr0_1 : Kd.C k71 w A0_1 l0_1.length l0_1) (hc0_1 : l0_1.length ≤ c0_1) (h : spec_l8Place.f a0_0 l0_1 a1 = some r) :
  Calls Try.prog 50 #[.agg #[.int .i64 a0_0, .slice A0_1 l0_1.length c0_1], .int .i64 a1] w fun e w' => e = .returned (.bool r) ∧ Below w.heap.size w w' := by
 have hu25 := Try.underlying25
 have HR0_1 := Aside0.mk hr0_1
 have HC0_1 := Aside0.mk hc0_1
 clear hr0_1 hc0_1
 have HB := Aside0.mk (Below.refl w.heap.size w)
 have H : ((spec_l1In.f a1 0 (wrap64 ((l0_1.length : Int) + 1))).bind fun t216 => (some t216)) = some r := h
 clear h
 replace H := Option.bind_eq_some_iff.mp H
 obtain ⟨t216, A30, H⟩ := H
 replace H : (some t216) = some r := H
 have A3 := Aside0.mk A30
 clear A30
 obtain rfl := Option.some.inj H
 go_enter Try.func50, Try.ntmps50
 go_wp2_with (first | ((with_reducible refine gate_dst (N := 2) rfl ?_); refine box_event ?hg (N := 2) ?hd (cs := #[.int .i64 a0_0, .slice A0_1 l0_1.length c0_1]) (t := 25) ?hr ?_; (case hd => rfl); (case hg => rfl); (case hr => first | (go_simp; done) | (go_simp; rfl)); intro gb215 hg w4 hbox hb; have n0_ := Aside0.mk (below_step (by repeat (first | (with_reducible first | exact HB.out | apply bwA | apply bwN | apply bwD) | exact HB.out)) hb); have n1_ := Aside0.mk (hbox); have n2_ := Aside0.mk ((by rw [hg]; exact (below_size (by repeat (first | (with_reducible first | exact HB.out | apply bwA | apply bwN | apply bwD) | exact HB.out))) : w.heap.size ≤ gb215)); have n3_ := Aside0.mk ((by rw [hg]; exact (below_size (by repeat (first | (with_reducible first | exact HB.out | apply bwA | apply bwN | apply bwD) | exact HB.out))) : w.heap.size ≤ gb215)); clear HB; have HB := n0_; have BK215 := n1_; have GW215 := n2_; have GE215 := n3_; clear n0_ n1_ n2_ n3_; clear hb hbox hg; have hcz5_0 : w4.cell? ⟨gb215, 0, none⟩ = some (.int .i64 a0_0) := (blk_cell BK215.out 0).trans rfl; have hcz5_1 : w4.cell? ⟨gb215, 1, none⟩ = some (.slice A0_1 l0_1.length c0_1) := (blk_cell BK215.out 1).trans rfl; have hfz5_0 := blk_frozen BK215.out 0; have hfz5_1 := blk_frozen BK215.out 1) | ((with_reducible refine gate_callee (f := 65) rfl ?_); refine goesL_ (some 10) rfl rfl Try.func65 (by kernel_rfl) rfl #[.int .i64 a1, .int .i64 0, .int .i64 (wrap64 ((l0_1.length : Int) + 1))] rfl lmB ?_; (with_reducible refine (spec_l1In.calls a1 0 (wrap64 ((l0_1.length : Int) + 1)) t216 _ A3.out).mono ?_); rintro e w' ⟨rfl, ⟨nd, rfl⟩⟩; refine ⟨_, rfl, ?_⟩))
 go_ret
 exact ⟨ers, by repeat (first | (with_reducible first | exact HB.out | apply bwA | apply bwN | apply bwD | refine below_set ?_ GE215.out) | exact HB.out)⟩

/-! ### spec_l8Var: function 99 -/
def spec_l8Var.f (a0_0 : Int) (l0_1 : List (S71)) (a1 : Int) : Option (Int) := if a1 < 2 then (some a0_0) else (if 0 ≤ (wrap64 (a1 - 2)) then (if (wrap64 (a1 - 2)) < (l0_1.length : Int) then (some ((rd_T71 l0_1 (wrap64 (a1 - 2))).f0)) else (none)) else (none))
set_option maxHeartbeats 8000000 in
set_option maxRecDepth 100000 in
theorem spec_l8Var.calls (a0_0 : Int) (A0_1 : Option Addr) (c0_1 : Nat) (l0_1 : List (S71)) (a1 : Int) (r : Int) (w : World) (hr0_1 : Kd.C k71 w A0_1 l0_1.length l0_1) (hc0_1 : l0_1.length ≤ c0_1) (h : spec_l8Var.f a0_0 l0_1 a1 = some r) :
  Calls Try.prog 99 #[.agg #[.int .i64 a0_0, .slice A0_1 l0_1.length c0_1], .int .i64 a1] w fun e w' => e = .returned (.int .i64 r) ∧ Below w.heap.size w w' := by
 have hu25 := Try.underlying25
 have HR0_1 := Aside0.mk hr0_1
 have HC0_1 := Aside0.mk hc0_1
 clear hr0_1 hc0_1
 have HB := Aside0.mk (Below.refl w.heap.size w)
 have H : (if a1 < 2 then (some a0_0) else (if 0 ≤ (wrap64 (a1 - 2)) then (if (wrap64 (a1 - 2)) < (l0_1.length : Int) then (some ((rd_T71 l0_1 (wrap64 (a1 - 2))).f0)) else (none)) else (none))) = some r := h
 clear h
 by_cases c3 : a1 < 2
 ·rw [if_pos c3] at H
  have c3b0 : decide (a1 < 2) = true := decide_eq_true c3
  clear c3
  obtain rfl := Option.some.inj H
  go_enter Try.func99, Try.ntmps99
  go_wp2_with (first | ((with_reducible refine gate_dst (N := 2) rfl ?_); refine box_event ?hg (N := 2) ?hd (cs := #[.int .i64 a0_0, .slice A0_1 l0_1.length c0_1]) (t := 25) ?hr ?_; (case hd => rfl); (case hg => rfl); (case hr => first | (go_simp; done) | (go_simp; rfl)); intro gb217 hg w4 hbox hb; have n0_ := Aside0.mk (below_step (by repeat (first | (with_reducible first | exact HB.out | apply bwA | apply bwN | apply bwD) | exact HB.out)) hb); have n1_ := Aside0.mk (hbox); have n2_ := Aside0.mk ((by rw [hg]; exact (below_size (by repeat (first | (with_reducible first | exact HB.out | apply bwA | apply bwN | apply bwD) | exact HB.out))) : w.heap.size ≤ gb217)); have n3_ := Aside0.mk ((by rw [hg]; exact (below_size (by repeat (first | (with_reducible first | exact HB.out | apply bwA | apply bwN | apply bwD) | exact HB.out))) : w.heap.size ≤ gb217)); clear HB; have HB := n0_; have BK217 := n1_; have GW217 := n2_; have GE217 := n3_; clear n0_ n1_ n2_ n3_; clear hb hbox hg; have hcz5_0 : w4.cell? ⟨gb217, 0, none⟩ = some (.int .i64 a0_0) := (blk_cell BK217.out 0).trans rfl; have hcz5_1 : w4.cell? ⟨gb217, 1, none⟩ = some (.slice A0_1 l0_1.length c0_1) := (blk_cell BK217.out 1).trans rfl; have hfz5_0 := blk_frozen BK217.out 0; have hfz5_1 := blk_frozen BK217.out 1))
  go_ret
  exact ⟨ers, by repeat (first | (with_reducible first | exact HB.out | apply bwA | apply bwN | apply bwD | refine below_set ?_ GE217.out) | exact HB.out)⟩
 ·rw [if_neg c3] at H
  have c3b0 : decide (a1 < 2) = false := decide_eq_false c3
  clear c3
  obtain ⟨ji6, hji6⟩ : ∃ j_ : Int, (wrap64 (a1 - 2)) = j_ := ⟨_, rfl⟩
  replace H : (if 0 ≤ (ji6) then (if (ji6) < (l0_1.length : Int) then (some ((rd_T71 l0_1 (ji6)).f0)) else (none)) else (none)) = some r := by first | (rw [hji6] at H; exact H) | (simp only [hji6] at H ⊢; exact H)
  have hji6w : (IntKind.i64.wrap (a1 - 2)) = ji6 := (i64_w _).trans hji6
  by_cases c7 : 0 ≤ (ji6)
  ·rw [if_pos c7] at H
   have c7b0 : decide (0 ≤ (ji6)) = true := decide_eq_true c7
   clear c7
   by_cases c8 : (ji6) < (l0_1.length : Int)
   ·rw [if_pos c8] at H
    have c8b0 : decide ((ji6) < (l0_1.length : Int)) = true := decide_eq_true c8
    clear c8
    obtain rfl := Option.some.inj H
    go_enter Try.func99, Try.ntmps99
    go_wp2_with (first | ((with_reducible refine gate_dst (N := 2) rfl ?_); refine box_event ?hg (N := 2) ?hd (cs := #[.int .i64 a0_0, .slice A0_1 l0_1.length c0_1]) (t := 25) ?hr ?_; (case hd => rfl); (case hg => rfl); (case hr => first | (go_simp; done) | (go_simp; rfl)); intro gb217 hg w9 hbox hb; have n0_ := Aside0.mk (below_step (by repeat (first | (with_reducible first | exact HB.out | apply bwA | apply bwN | apply bwD) | exact HB.out)) hb); have n1_ := Aside0.mk (hbox); have n2_ := Aside0.mk ((by rw [hg]; exact (below_size (by repeat (first | (with_reducible first | exact HB.out | apply bwA | apply bwN | apply bwD) | exact HB.out))) : w.heap.size ≤ gb217)); have n3_ := Aside0.mk ((by rw [hg]; exact (below_size (by repeat (first | (with_reducible first | exact HB.out | apply bwA | apply bwN | apply bwD) | exact HB.out))) : w.heap.size ≤ gb217)); clear HB; have HB := n0_; have BK217 := n1_; have GW217 := n2_; have GE217 := n3_; clear n0_ n1_ n2_ n3_; clear hb hbox hg; have hcz10_0 : w9.cell? ⟨gb217, 0, none⟩ = some (.int .i64 a0_0) := (blk_cell BK217.out 0).trans rfl; have hcz10_1 : w9.cell? ⟨gb217, 1, none⟩ = some (.slice A0_1 l0_1.length c0_1) := (blk_cell BK217.out 1).trans rfl; have hfz10_0 := blk_frozen BK217.out 0; have hfz10_1 := blk_frozen BK217.out 1; have p218 : 0 ≤ ((ji6) : Int) := oda; have q218 : (ji6) < (l0_1.length : Int) := oda; obtain ⟨ad218, e218, hx218_0, hx218_1, hx218_2⟩ := at_T71 HR0_1.out (ji6) p218 q218; cases e218; replace hx218_0 := bct HB.out hx218_0; replace hx218_1 := bct HB.out hx218_1; replace hx218_2 := bct HB.out hx218_2; replace p218 := eq_true p218; replace q218 := eq_true q218))
    go_ret
    exact ⟨by first | rfl | (simp [errW_none, errW_some] <;> rfl) | (simp only [← hji6]; first | rfl | (simp [errW_none, errW_some] <;> rfl)) | (simp [*, errW_none, errW_some] <;> rfl), by repeat (first | (with_reducible first | exact HB.out | apply bwA | apply bwN | apply bwD | refine below_set ?_ GE217.out) | exact HB.out)⟩
   ·rw [if_neg c8] at H
    exact absurd H (by simp)
  ·rw [if_neg c7] at H
   exact absurd H (by simp)

end Go.Proofs.Ytpcompnmadpljaa.QFnDiagramNot
