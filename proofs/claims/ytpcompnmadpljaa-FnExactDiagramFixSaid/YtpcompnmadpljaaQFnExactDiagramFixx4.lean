-- Written by a program of this session (mk.py). Lean checks it.
import Derived.Test.YtpcompnmadpljaaQFnExactDiagramFixx0
import Derived.Test.YtpcompnmadpljaaQFnExactDiagramFixx2
import Derived.Test.YtpcompnmadpljaaQFnExactDiagramFixx3
namespace Go.Proofs.Ytpcompnmadpljaa.QFnExactDiagramFix
open Go.RowKit Go.Proofs.YtpcompnmadpljaaW.PrintWords Go.Proofs.YtpcompnmadpljaaW.PrintLast Go.Proofs.YtpcompnmadpljaaW.PrintMore
attribute [local go_sem] max2_int min2_int max_two min_two max_three min_three max_four min_four   -- for this text's walks alone
set_option linter.unusedVariables false
set_option linter.unusedSimpArgs false

/-! ### impl_forking_fix: function 63 -/
theorem keyInt : Mp.Key Try.prog 3 (Value.int .i64) KeyI where
 law := Maps.int_keyed Try.underlying3
 reads := fun x hx => by
  have hu := Try.underlying3
  exact ⟨.int .i64 x, by simp [keyOf, mapKey, hu, hx.wf]⟩
 inj := fun x y _ _ h => by
  simp at h
  exact h
def impl_forking_fix.two (rec : FS → Int → (Int → Option Int) → Option (FS × (Int → Option Int) × Int)) (s : FS) (n : Int) (x : S71) (m : Int → Option Int) : Option (FS × (Int → Option Int) × Int) :=
 (rec s x.f1 m).bind fun p1 => (rec p1.1 x.f2 p1.2.1).bind fun p2 =>
 if p2.1.full = true then some (p2.1, p2.2.1, 0) else (impl_forking_fork.f p2.1 x.f0 p1.2.2 p2.2.2).bind fun p3 => some (p3.1, (fun y => if y = n then some p3.2 else p2.2.1 y), p3.2)
def impl_forking_fix.f : Nat → FS → Int → Int → Int → (Int → Option Int) → Option (FS × (Int → Option Int) × Int)
 | 0, _, _, _, _, _ => none
 | k + 1, s, n, v, value, m =>
  (impl_Diagram_varAt.f s.vars s.forks n).bind fun t => if t > v then some (s, m, n)
  else if t = v then (impl_forking_goes.f s n v value).bind fun r => some (s, m, r)
  else if KeyI n then
   match m n with
   | some r => some (s, m, r)
   | none => if 0 ≤ wrap64 (n - 2) then if wrap64 (n - 2) < (s.forks.length : Int) then impl_forking_fix.two (fun s2 n2 m2 => impl_forking_fix.f k s2 n2 v value m2) s n (rd_T71 s.forks (wrap64 (n - 2))) m else none else none
  else none
theorem impl_forking_fix.two_le {f1 f2 : FS → Int → (Int → Option Int) → Option (FS × (Int → Option Int) × Int)} (h : ∀ s n m, LeO (f1 s n m) (f2 s n m)) (s : FS) (n : Int) (x : S71) (m : Int → Option Int) : LeO (impl_forking_fix.two f1 s n x m) (impl_forking_fix.two f2 s n x m) :=
 LeO.bind (h _ _ _) (fun _ => LeO.bind (h _ _ _) (fun _ => LeO.refl _))
theorem impl_forking_fix.le : ∀ (k : Nat) (s : FS) (n v value : Int) (m : Int → Option Int), LeO (impl_forking_fix.f k s n v value m) (impl_forking_fix.f (k + 1) s n v value m)
 | 0 => fun _ _ _ _ _ r h => by simp [impl_forking_fix.f] at h
 | k + 1 => fun s n v value m => by
  have ih := impl_forking_fix.le k
  rw [impl_forking_fix.f, impl_forking_fix.f]
  refine LeO.bind (LeO.refl _) (fun t => LeO.ite (LeO.refl _) (LeO.ite (LeO.refl _) (LeO.ite ?_ (LeO.refl _))))
  cases m n with
  | some r => exact LeO.refl _
  | none => exact LeO.ite (LeO.ite (impl_forking_fix.two_le (fun s2 n2 m2 => ih s2 n2 v value m2) _ _ _ _) (LeO.refl _)) (LeO.refl _)
theorem impl_forking_fix.mono : ∀ s n v value m k, LeO (impl_forking_fix.f k s n v value m) (impl_forking_fix.f (k + 1) s n v value m) := fun s n v value m k => impl_forking_fix.le k s n v value m
set_option maxHeartbeats 16000000 in
set_option maxRecDepth 100000 in
theorem impl_forking_fix.calls : ∀ (k : Nat) (s s' : FS) (n v value r : Int) (m m' : Int → Option Int) (mb : Nat) (ok : Nat → Prop) (g : Nat) (w0 w : World) (_ : Below w0.heap.size w0 w) (_ : IsF w w0.heap.size ok g s) (_ : Mp.Is (Value.int .i64) KeyI (Value.int .i64) w mb m) (_ : w0.heap.size ≤ mb ∧ ¬ ok mb) (_ : ∀ k, w.heap.size ≤ k → ok k) (_ : impl_forking_fix.f k s n v value m = some (s', m', r)),
  Calls Try.prog 63 #[.pointer (some ⟨g, 0, none⟩), .int .i64 n, .int .i64 v, .int .i64 value, .map (some mb)] w fun e w' => e = .returned (.int .i64 r) ∧ IsF w' w0.heap.size ok g s' ∧ Mp.Is (Value.int .i64) KeyI (Value.int .i64) w' mb m' ∧ Below w0.heap.size w0 w' ∧ Kept w w' (fun k_ => ok k_ ∨ k_ = mb)
 | 0 => fun _ _ _ _ _ _ _ _ _ _ _ _ _ _ _ _ _ _ h => by simp [impl_forking_fix.f] at h
 | k + 1 => fun s s' n v value r m m' mb ok g w0 w hB hI hM hmb hf h => by
  have ih := Aside0.mk (impl_forking_fix.calls k)
  have hu25 := Try.underlying25
  have hu71 := Try.underlying71
  have hu113 := Try.underlying113
  have HI := Aside0.mk hI
  have HB := Aside0.mk hB
  have HF := Aside0.mk hf
  have HM := Aside0.mk hM
  have MB := Aside0.mk hmb
  simp only [impl_forking_fix.f] at h
  obtain ⟨t, hva, h2⟩ := Option.bind_eq_some_iff.mp h
  have HVA := Aside0.mk hva
  obtain ⟨u, b1, b2, hg, hR, _, _, _, k1, _, _, k4, _, _⟩ := hI
  obtain ⟨A, c, rfl⟩ := Kd.R_slice hR
  have BG := Aside0.mk hg
  have HC := Aside0.mk (Kd.R_reads' hR).2.1
  have HR := Aside0.mk (Kd.R_reads' hR).2.2
  have hg0 : w.cell? ⟨g, 0, none⟩ = some (.int .i64 s.vars) := (blk_cell hg 0).trans rfl
  have hg1 : w.cell? ⟨g, 1, none⟩ = some (.slice A s.forks.length c) := (blk_cell hg 1).trans rfl
  clear hB hM hmb hf h hva hg hR k1 k4
  have h := h2
  clear h2
  by_cases c1 : t > v
  ·rw [if_pos c1] at h
   simp only [Option.some.injEq, Prod.mk.injEq] at h
   obtain ⟨rfl, rfl, rfl⟩ := h
   have e1 : decide (v < t) = true := decide_eq_true c1
   clear c1
   go_enter Try.func63, Try.ntmps63
   go_wp2_with (first | (go_at_call 54; (with_reducible refine (impl_Diagram_varAt.calls s.vars A c s.forks n t _ HR.out HC.out HVA.out).mono ?_); rintro e w5 ⟨rfl, hb⟩; have HB5 := Aside0.mk (hb); have BG5 := Aside0.mk (blk_below BG.out hb); have g50 : w5.cell? ⟨g, 0, none⟩ = some (.int .i64 s.vars) := (blk_cell BG5.out 0).trans rfl; have g51 : w5.cell? ⟨g, 1, none⟩ = some (.slice A s.forks.length c) := (blk_cell BG5.out 1).trans rfl; clear hb))
   go_ret
   exact ⟨rfl, HI.out.below HB5.out, HM.out.below HB5.out, below_then HB.out HB.out.size HB5.out, Kept.of_below HB5.out _⟩
  rw [if_neg c1] at h
  have e1 : decide (v < t) = false := decide_eq_false c1
  clear c1
  by_cases c2 : t = v
  ·rw [if_pos c2] at h
   obtain ⟨q, hq, h2⟩ := Option.bind_eq_some_iff.mp h
   simp only [Option.some.injEq, Prod.mk.injEq] at h2
   obtain ⟨rfl, rfl, rfl⟩ := h2
   have HQ := Aside0.mk hq
   have e2 : (t == v) = true := beq_iff_eq.mpr c2
   clear c2 h hq
   go_enter Try.func63, Try.ntmps63
   go_wp2_with (first | (go_at_call 54; (with_reducible refine (impl_Diagram_varAt.calls s.vars A c s.forks n t _ HR.out HC.out HVA.out).mono ?_); rintro e w5 ⟨rfl, hb⟩; have HB5 := Aside0.mk (hb); have BG5 := Aside0.mk (blk_below BG.out hb); have g50 : w5.cell? ⟨g, 0, none⟩ = some (.int .i64 s.vars) := (blk_cell BG5.out 0).trans rfl; have g51 : w5.cell? ⟨g, 1, none⟩ = some (.slice A s.forks.length c) := (blk_cell BG5.out 1).trans rfl; clear hb) | (go_at_call 54; (with_reducible refine (impl_Diagram_varAt.calls s.vars A c s.forks n t _ (Kd.C_below HR.out HB5.out) HC.out HVA.out).mono ?_); rintro e w6 ⟨rfl, hb⟩; have HB6 := Aside0.mk (below_step HB5.out hb); have BG6 := Aside0.mk (blk_below BG5.out hb); have g60 : w6.cell? ⟨g, 0, none⟩ = some (.int .i64 s.vars) := (blk_cell BG6.out 0).trans rfl; have g61 : w6.cell? ⟨g, 1, none⟩ = some (.slice A s.forks.length c) := (blk_cell BG6.out 1).trans rfl; clear hb) | (go_at_call 100; have hi_ := HI.out.below HB6.out; (with_reducible refine (impl_forking_goes.calls s n v value q w0.heap.size _ g _ hi_ HQ.out).mono ?_); rintro e w7 ⟨rfl, hb⟩; have HB7 := Aside0.mk (below_step HB6.out hb); clear hb hi_))
   go_ret
   exact ⟨rfl, HI.out.below HB7.out, HM.out.below HB7.out, below_then HB.out HB.out.size HB7.out, Kept.of_below HB7.out _⟩
  rw [if_neg c2] at h
  have e2 : (t == v) = false := beq_eq_false_iff_ne.mpr c2
  clear c2
  by_cases c3 : KeyI n
  ·rw [if_pos c3] at h
   have C3 := Aside0.mk c3
   clear c3
   cases hs : m n with
   | some q =>
    rw [hs] at h
    simp only [Option.some.injEq, Prod.mk.injEq] at h
    obtain ⟨rfl, rfl, rfl⟩ := h
    go_enter Try.func63, Try.ntmps63
    go_wp2_with (first | (go_at_call 54; (with_reducible refine (impl_Diagram_varAt.calls s.vars A c s.forks n t _ HR.out HC.out HVA.out).mono ?_); rintro e w5 ⟨rfl, hb⟩; have HB5 := Aside0.mk (hb); have BG5 := Aside0.mk (blk_below BG.out hb); have g50 : w5.cell? ⟨g, 0, none⟩ = some (.int .i64 s.vars) := (blk_cell BG5.out 0).trans rfl; have g51 : w5.cell? ⟨g, 1, none⟩ = some (.slice A s.forks.length c) := (blk_cell BG5.out 1).trans rfl; clear hb) | (go_at_call 54; (with_reducible refine (impl_Diagram_varAt.calls s.vars A c s.forks n t _ (Kd.C_below HR.out HB5.out) HC.out HVA.out).mono ?_); rintro e w6 ⟨rfl, hb⟩; have HB6 := Aside0.mk (below_step HB5.out hb); have BG6 := Aside0.mk (blk_below BG5.out hb); have g60 : w6.cell? ⟨g, 0, none⟩ = some (.int .i64 s.vars) := (blk_cell BG6.out 0).trans rfl; have g61 : w6.cell? ⟨g, 1, none⟩ = some (.slice A s.forks.length c) := (blk_cell BG6.out 1).trans rfl; clear hb) | ((with_reducible refine gate_ (op := .lookup 83 (.tmp 39) (.tmp 40) true) rfl ?_); refine Mp.look_some rfl (.tmp 39) (.tmp 40) rfl rfl (HM.out.below HB6.out) keyInt Try.underlying83 zero_int n rfl C3.out hs ?_))
    go_ret
    exact ⟨rfl, HI.out.below HB6.out, HM.out.below HB6.out, below_then HB.out HB.out.size HB6.out, Kept.of_below HB6.out _⟩
   | none =>
    rw [hs] at h
    simp only at h
    obtain ⟨j, hj⟩ : ∃ j, wrap64 (n - 2) = j := ⟨_, rfl⟩
    have hjw : (IntKind.i64.wrap (n - 2)) = j := (i64_w _).trans hj
    rw [hj] at h
    by_cases c4 : 0 ≤ j
    ·rw [if_pos c4] at h
     by_cases c5 : j < (s.forks.length : Int)
     ·rw [if_pos c5] at h
      obtain ⟨ad, rfl, hx0, hx1, hx2⟩ := at_T71 HR.out j c4 c5
      have c4b : decide (0 ≤ j) = true := decide_eq_true c4
      have c5b : decide (j < (s.forks.length : Int)) = true := decide_eq_true c5
      have X := Aside0.mk (And.intro hx0 (And.intro hx1 hx2))
      clear hx0 hx1 hx2 hj
      generalize rd_T71 s.forks j = x at h X
      simp only [impl_forking_fix.two] at h
      obtain ⟨⟨s1, m1, lo⟩, hp1, h3⟩ := Option.bind_eq_some_iff.mp h
      obtain ⟨⟨s2, m2, hi⟩, hp2, h4⟩ := Option.bind_eq_some_iff.mp h3
      simp only at hp2 h4
      have P1 := Aside0.mk hp1
      have P2 := Aside0.mk hp2
      have H4 := Aside0.mk h4
      clear h h3 h4 hp1 hp2
      cases hfl : s2.full with
      | true =>
       have h5 := H4.out
       rw [hfl, if_pos rfl] at h5
       simp only [Option.some.injEq, Prod.mk.injEq] at h5
       obtain ⟨rfl, rfl, rfl⟩ := h5
       clear H4
       go_enter Try.func63, Try.ntmps63
       go_upto_region 9 with (first | (go_at_call 54; (with_reducible refine (impl_Diagram_varAt.calls s.vars _ c s.forks n t _ HR.out HC.out HVA.out).mono ?_); rintro e w5 ⟨rfl, hb⟩; have HB5 := Aside0.mk (hb); have BG5 := Aside0.mk (blk_below BG.out hb); have g50 : w5.cell? ⟨g, 0, none⟩ = some (.int .i64 s.vars) := (blk_cell BG5.out 0).trans rfl; have g51 : w5.cell? ⟨g, 1, none⟩ = some (.slice (some ad) s.forks.length c) := (blk_cell BG5.out 1).trans rfl; clear hb) | (go_at_call 54; (with_reducible refine (impl_Diagram_varAt.calls s.vars _ c s.forks n t _ (Kd.C_below HR.out HB5.out) HC.out HVA.out).mono ?_); rintro e w6 ⟨rfl, hb⟩; have HB6 := Aside0.mk (below_step HB5.out hb); have BG6 := Aside0.mk (blk_below BG5.out hb); have g60 : w6.cell? ⟨g, 0, none⟩ = some (.int .i64 s.vars) := (blk_cell BG6.out 0).trans rfl; have g61 : w6.cell? ⟨g, 1, none⟩ = some (.slice (some ad) s.forks.length c) := (blk_cell BG6.out 1).trans rfl; have x60 := (HB6.out.cell (World.block_lt_of_cell? w _ X.out.1)).trans X.out.1; have x61 := (HB6.out.cell (World.block_lt_of_cell? w _ X.out.2.1)).trans X.out.2.1; have x62 := (HB6.out.cell (World.block_lt_of_cell? w _ X.out.2.2)).trans X.out.2.2; clear hb) | ((with_reducible refine gate_ (op := .lookup 83 (.tmp 39) (.tmp 40) true) rfl ?_); refine Mp.look_none rfl (.tmp 39) (.tmp 40) rfl rfl (HM.out.below HB6.out) keyInt Try.underlying83 zero_int n rfl C3.out hs ?_) | ((with_reducible refine gate_dst (N := 13) rfl ?_); refine box_event ?hg (N := 13) ?hd (cs := #[.int .i64 0, .int .i64 0, .int .i64 0]) (t := 71) ?hr ?_; (case hd => rfl); (case hg => rfl); (case hr => first | (go_simp; done) | (go_simp; rfl)); intro gb hgb w7 hbox hb; have BX0 := Aside0.mk hbox; have HB7 := Aside0.mk (below_step HB6.out hb); have hz0 : w7.cell? ⟨gb, 0, none⟩ = some (.int .i64 0) := (blk_cell BX0.out 0).trans rfl; have hz1 : w7.cell? ⟨gb, 1, none⟩ = some (.int .i64 0) := (blk_cell BX0.out 1).trans rfl; have hz2 : w7.cell? ⟨gb, 2, none⟩ = some (.int .i64 0) := (blk_cell BX0.out 2).trans rfl; have hy0 := blk_frozen BX0.out 0; have hy1 := blk_frozen BX0.out 1; have hy2 := blk_frozen BX0.out 2; have HGB := Aside0.mk (show w.heap.size ≤ gb by rw [hgb]; exact HB6.out.size); clear hgb hbox hb))
       have n0_ := Aside0.mk (below_set (below_set (below_set HB7.out HGB.out (j := 0) (v := .int .i64 x.f0)) HGB.out (j := 1) (v := .int .i64 x.f1)) HGB.out (j := 2) (v := .int .i64 x.f2))
       have BX8 := Aside0.mk (blk_put (blk_put (blk_put BX0.out 0 (.int .i64 x.f0) rfl) 1 (.int .i64 x.f1) rfl) 2 (.int .i64 x.f2) rfl)
       generalize (((w7.setCell ⟨gb, 0, none⟩ (.int .i64 x.f0)).setCell ⟨gb, 1, none⟩ (.int .i64 x.f1)).setCell ⟨gb, 2, none⟩ (.int .i64 x.f2)) = w8 at n0_ BX8 ⊢
       have LB8 := blk_lt BX8.out
       have I8 : Aside0 (IsF w8 w0.heap.size (fun k_ => ok k_ ∧ k_ ≠ gb) g s) := ⟨IsF.mono ((HI.out.bound).step (fun k_ hk_ _ => n0_.out.block k_ hk_.2.2)) (fun k_ hk_ => ⟨hk_.1, fun e_ => by have := HGB.out; have := hk_.2.2; omega⟩)⟩
       have M8 := Aside0.mk (HM.out.below n0_.out)
       have MB8 : Aside0 (w0.heap.size ≤ mb ∧ ¬ (ok mb ∧ mb ≠ gb)) := ⟨MB.out.1, fun h_ => MB.out.2 h_.1⟩
       have BL8 := Aside0.mk (below_then HB.out HB.out.size n0_.out)
       have HF8 : Aside0 (∀ k_, w8.heap.size ≤ k_ → ok k_ ∧ k_ ≠ gb) := ⟨fun k_ h_ => ⟨HF.out k_ (Nat.le_trans n0_.out.size h_), fun e_ => by omega⟩⟩
       have K8 := Aside0.mk (Kept.of_below n0_.out (fun k_ => ok k_ ∨ k_ = mb))
       have NB8 : Aside0 (¬ ((ok gb ∧ gb ≠ gb) ∨ gb = mb)) := ⟨fun h_ => h_.elim (fun h_ => h_.2 rfl) (fun e_ => by have := HM.out.lt; have := HGB.out; omega)⟩
       have x81 : w8.cell? ⟨gb, 1, none⟩ = some (.int .i64 x.f1) := (blk_cell BX8.out 1).trans rfl
       clear n0_ LB8 hz0 hz1 hz2 hy0 hy1 hy2 BX0 HB7 x60 x61 x62 HB6 BG6 g60 g61 HB5 BG5 g50 g51
       go_wp2_with (first | (go_at_call 63; (with_reducible refine (ih.out s s1 x.f1 v value lo m m1 mb _ g w0 _ BL8.out I8.out M8.out MB8.out HF8.out P1.out).mono ?_); rintro e w9 ⟨rfl, hi_, hm_, hb_, hk_⟩; have I9 := Aside0.mk hi_; have M9 := Aside0.mk hm_; have BL9 := Aside0.mk hb_; have BX9 := Aside0.mk (blk_kept BX8.out hk_ NB8.out); have K9 := Aside0.mk (K8.out.then_ hk_ (fun _ h_ => .inl (h_.imp And.left id))); have HF9 : Aside0 (∀ k_, w9.heap.size ≤ k_ → ok k_ ∧ k_ ≠ gb) := ⟨fun k_ h_ => HF8.out k_ (Nat.le_trans hk_.1 h_)⟩; have x92 : w9.cell? ⟨gb, 2, none⟩ = some (.int .i64 x.f2) := (blk_cell BX9.out 2).trans rfl; clear hi_ hm_ hb_ hk_) | (go_at_call 63; (with_reducible refine (ih.out s1 s2 x.f2 v value hi m1 m2 mb _ g w0 _ BL9.out I9.out M9.out MB8.out HF9.out P2.out).mono ?_); rintro e w10 ⟨rfl, hi_, hm_, hb_, hk_⟩; have I10 := Aside0.mk hi_; have M10 := Aside0.mk hm_; have BL10 := Aside0.mk hb_; have BX10 := Aside0.mk (blk_kept BX9.out hk_ NB8.out); have K10 := Aside0.mk (K9.out.then_ hk_ (fun _ h_ => .inl (h_.imp And.left id))); have HF10 : Aside0 (∀ k_, w10.heap.size ≤ k_ → ok k_ ∧ k_ ≠ gb) := ⟨fun k_ h_ => HF9.out k_ (Nat.le_trans hk_.1 h_)⟩; have x100 : w10.cell? ⟨gb, 0, none⟩ = some (.int .i64 x.f0) := (blk_cell BX10.out 0).trans rfl; obtain ⟨u10, b10, c10, hg10, _⟩ := hi_; have g103 : w10.cell? ⟨g, 3, none⟩ = some (.bool s2.full) := (blk_cell hg10 3).trans rfl; rw [hfl] at g103; clear hg10 hm_ hb_ hk_))
       go_ret
       exact ⟨rfl, I10.out.mono (fun _ h_ => h_.1), M10.out, BL10.out, K10.out⟩
      | false =>
       have h5 := H4.out
       rw [hfl, if_neg (by decide)] at h5
       obtain ⟨⟨s3, nn⟩, hp3, h6⟩ := Option.bind_eq_some_iff.mp h5
       simp only [Option.some.injEq, Prod.mk.injEq] at h6
       obtain ⟨rfl, rfl, rfl⟩ := h6
       have P3 := Aside0.mk hp3
       clear H4 h5 hp3
       go_enter Try.func63, Try.ntmps63
       go_upto_region 9 with (first | (go_at_call 54; (with_reducible refine (impl_Diagram_varAt.calls s.vars _ c s.forks n t _ HR.out HC.out HVA.out).mono ?_); rintro e w5 ⟨rfl, hb⟩; have HB5 := Aside0.mk (hb); have BG5 := Aside0.mk (blk_below BG.out hb); have g50 : w5.cell? ⟨g, 0, none⟩ = some (.int .i64 s.vars) := (blk_cell BG5.out 0).trans rfl; have g51 : w5.cell? ⟨g, 1, none⟩ = some (.slice (some ad) s.forks.length c) := (blk_cell BG5.out 1).trans rfl; clear hb) | (go_at_call 54; (with_reducible refine (impl_Diagram_varAt.calls s.vars _ c s.forks n t _ (Kd.C_below HR.out HB5.out) HC.out HVA.out).mono ?_); rintro e w6 ⟨rfl, hb⟩; have HB6 := Aside0.mk (below_step HB5.out hb); have BG6 := Aside0.mk (blk_below BG5.out hb); have g60 : w6.cell? ⟨g, 0, none⟩ = some (.int .i64 s.vars) := (blk_cell BG6.out 0).trans rfl; have g61 : w6.cell? ⟨g, 1, none⟩ = some (.slice (some ad) s.forks.length c) := (blk_cell BG6.out 1).trans rfl; have x60 := (HB6.out.cell (World.block_lt_of_cell? w _ X.out.1)).trans X.out.1; have x61 := (HB6.out.cell (World.block_lt_of_cell? w _ X.out.2.1)).trans X.out.2.1; have x62 := (HB6.out.cell (World.block_lt_of_cell? w _ X.out.2.2)).trans X.out.2.2; clear hb) | ((with_reducible refine gate_ (op := .lookup 83 (.tmp 39) (.tmp 40) true) rfl ?_); refine Mp.look_none rfl (.tmp 39) (.tmp 40) rfl rfl (HM.out.below HB6.out) keyInt Try.underlying83 zero_int n rfl C3.out hs ?_) | ((with_reducible refine gate_dst (N := 13) rfl ?_); refine box_event ?hg (N := 13) ?hd (cs := #[.int .i64 0, .int .i64 0, .int .i64 0]) (t := 71) ?hr ?_; (case hd => rfl); (case hg => rfl); (case hr => first | (go_simp; done) | (go_simp; rfl)); intro gb hgb w7 hbox hb; have BX0 := Aside0.mk hbox; have HB7 := Aside0.mk (below_step HB6.out hb); have hz0 : w7.cell? ⟨gb, 0, none⟩ = some (.int .i64 0) := (blk_cell BX0.out 0).trans rfl; have hz1 : w7.cell? ⟨gb, 1, none⟩ = some (.int .i64 0) := (blk_cell BX0.out 1).trans rfl; have hz2 : w7.cell? ⟨gb, 2, none⟩ = some (.int .i64 0) := (blk_cell BX0.out 2).trans rfl; have hy0 := blk_frozen BX0.out 0; have hy1 := blk_frozen BX0.out 1; have hy2 := blk_frozen BX0.out 2; have HGB := Aside0.mk (show w.heap.size ≤ gb by rw [hgb]; exact HB6.out.size); clear hgb hbox hb))
       have n0_ := Aside0.mk (below_set (below_set (below_set HB7.out HGB.out (j := 0) (v := .int .i64 x.f0)) HGB.out (j := 1) (v := .int .i64 x.f1)) HGB.out (j := 2) (v := .int .i64 x.f2))
       have BX8 := Aside0.mk (blk_put (blk_put (blk_put BX0.out 0 (.int .i64 x.f0) rfl) 1 (.int .i64 x.f1) rfl) 2 (.int .i64 x.f2) rfl)
       generalize (((w7.setCell ⟨gb, 0, none⟩ (.int .i64 x.f0)).setCell ⟨gb, 1, none⟩ (.int .i64 x.f1)).setCell ⟨gb, 2, none⟩ (.int .i64 x.f2)) = w8 at n0_ BX8 ⊢
       have LB8 := blk_lt BX8.out
       have I8 : Aside0 (IsF w8 w0.heap.size (fun k_ => ok k_ ∧ k_ ≠ gb) g s) := ⟨IsF.mono ((HI.out.bound).step (fun k_ hk_ _ => n0_.out.block k_ hk_.2.2)) (fun k_ hk_ => ⟨hk_.1, fun e_ => by have := HGB.out; have := hk_.2.2; omega⟩)⟩
       have M8 := Aside0.mk (HM.out.below n0_.out)
       have MB8 : Aside0 (w0.heap.size ≤ mb ∧ ¬ (ok mb ∧ mb ≠ gb)) := ⟨MB.out.1, fun h_ => MB.out.2 h_.1⟩
       have BL8 := Aside0.mk (below_then HB.out HB.out.size n0_.out)
       have HF8 : Aside0 (∀ k_, w8.heap.size ≤ k_ → ok k_ ∧ k_ ≠ gb) := ⟨fun k_ h_ => ⟨HF.out k_ (Nat.le_trans n0_.out.size h_), fun e_ => by omega⟩⟩
       have K8 := Aside0.mk (Kept.of_below n0_.out (fun k_ => ok k_ ∨ k_ = mb))
       have NB8 : Aside0 (¬ ((ok gb ∧ gb ≠ gb) ∨ gb = mb)) := ⟨fun h_ => h_.elim (fun h_ => h_.2 rfl) (fun e_ => by have := HM.out.lt; have := HGB.out; omega)⟩
       have x81 : w8.cell? ⟨gb, 1, none⟩ = some (.int .i64 x.f1) := (blk_cell BX8.out 1).trans rfl
       clear n0_ LB8 hz0 hz1 hz2 hy0 hy1 hy2 BX0 HB7 x60 x61 x62 HB6 BG6 g60 g61 HB5 BG5 g50 g51
       go_wp2_with (first | (go_at_call 63; (with_reducible refine (ih.out s s1 x.f1 v value lo m m1 mb _ g w0 _ BL8.out I8.out M8.out MB8.out HF8.out P1.out).mono ?_); rintro e w9 ⟨rfl, hi_, hm_, hb_, hk_⟩; have I9 := Aside0.mk hi_; have M9 := Aside0.mk hm_; have BL9 := Aside0.mk hb_; have BX9 := Aside0.mk (blk_kept BX8.out hk_ NB8.out); have K9 := Aside0.mk (K8.out.then_ hk_ (fun _ h_ => .inl (h_.imp And.left id))); have HF9 : Aside0 (∀ k_, w9.heap.size ≤ k_ → ok k_ ∧ k_ ≠ gb) := ⟨fun k_ h_ => HF8.out k_ (Nat.le_trans hk_.1 h_)⟩; have x92 : w9.cell? ⟨gb, 2, none⟩ = some (.int .i64 x.f2) := (blk_cell BX9.out 2).trans rfl; clear hi_ hm_ hb_ hk_) | (go_at_call 63; (with_reducible refine (ih.out s1 s2 x.f2 v value hi m1 m2 mb _ g w0 _ BL9.out I9.out M9.out MB8.out HF9.out P2.out).mono ?_); rintro e w10 ⟨rfl, hi_, hm_, hb_, hk_⟩; have I10 := Aside0.mk hi_; have M10 := Aside0.mk hm_; have BL10 := Aside0.mk hb_; have BX10 := Aside0.mk (blk_kept BX9.out hk_ NB8.out); have K10 := Aside0.mk (K9.out.then_ hk_ (fun _ h_ => .inl (h_.imp And.left id))); have HF10 : Aside0 (∀ k_, w10.heap.size ≤ k_ → ok k_ ∧ k_ ≠ gb) := ⟨fun k_ h_ => HF9.out k_ (Nat.le_trans hk_.1 h_)⟩; have x100 : w10.cell? ⟨gb, 0, none⟩ = some (.int .i64 x.f0) := (blk_cell BX10.out 0).trans rfl; obtain ⟨u10, b10, c10, hg10, _⟩ := hi_; have g103 : w10.cell? ⟨g, 3, none⟩ = some (.bool s2.full) := (blk_cell hg10 3).trans rfl; rw [hfl] at g103; clear hg10 hm_ hb_ hk_) | (go_at_call 57; (with_reducible refine (impl_forking_fork.calls s2 s3 x.f0 lo hi nn _ g w0 _ BL10.out I10.out HF10.out P3.out).mono ?_); rintro e w11 ⟨rfl, hi_, hb_, hk_⟩; have I11 := Aside0.mk hi_; have BL11 := Aside0.mk hb_; have K11 := Aside0.mk (K10.out.then_ hk_ (fun _ h_ => .inl (.inl h_.1))); have M11 := Aside0.mk (M10.out.move (hk_.2 mb M10.out.lt MB8.out.2)); clear hi_ hb_ hk_) | ((with_reducible refine gate_ (op := .mapUpdate 83 (.tmp 73) (.tmp 74) (.tmp 80)) rfl ?_); refine Mp.store rfl (.tmp 73) (.tmp 74) (.tmp 80) rfl rfl M11.out keyInt Try.underlying83 n rfl C3.out nn rfl ?_; intro w12 hm_ hg_ hz_; have I12 := Aside0.mk (I11.out.step (fun k_ hk_ hlt_ => hg_.block k_ hlt_ (fun e_ => MB8.out.2 (by cases e_; exact hk_)))); have M12 := Aside0.mk hm_; have BL12 := Aside0.mk (BL11.out.grown hg_ BL11.out.size (fun k_ e_ => by cases e_; exact MB8.out.1)); have K12 := Aside0.mk (Kept.of_grown hg_ K11.out (fun k_ e_ => by cases e_; exact .inl (.inr rfl))); clear hm_ hg_ hz_) | ((with_reducible refine gate_ (op := .lookup 83 (.tmp 81) (.tmp 82) false) rfl ?_); refine Mp.at_some rfl (.tmp 81) (.tmp 82) rfl rfl M12.out keyInt Try.underlying83 zero_int n rfl C3.out (v := nn) (by simp) ?_))
       go_ret
       exact ⟨rfl, I12.out.mono (fun _ h_ => h_.1), M12.out, BL12.out, K12.out⟩
     ·rw [if_neg c5] at h
      cases h
    ·rw [if_neg c4] at h
     cases h
  ·rw [if_neg c3] at h
   cases h

/-! ### impl_DiagramFix: function 16 -/
def impl_DiagramFix.f (k : Nat) (a0_0 : Int) (l0_1 : List S71) (n : Int) (v : Int) (value : Int) : Option (Int × List S71 × Int) := (impl_DiagramValid.f a0_0 l0_1).bind fun t0 => if t0 = false then some (0, [], -1) else (impl_Diagram_isPlace.f a0_0 l0_1 n).bind fun t1 => if t1 = false then some (0, [], -1) else (impl_in.f v 0 (wrap64 (a0_0 - 1))).bind fun t2 => if t2 = false then some (0, [], -1) else (impl_in.f value 0 1).bind fun t3 => if t3 = false then some (0, [], -1) else (impl_forkingOf.f a0_0 l0_1).bind fun s => (impl_forking_fix.f k s n v value (fun _ => none)).bind fun p => impl_forking_done.f p.1 p.2.2
theorem impl_DiagramFix.mono : ∀ a0_0 l0_1 n v value k, LeO (impl_DiagramFix.f k a0_0 l0_1 n v value) (impl_DiagramFix.f (k + 1) a0_0 l0_1 n v value) := fun a0_0 l0_1 n v value k => LeO.bind (LeO.refl _) (fun _ => LeO.ite (LeO.refl _) (LeO.bind (LeO.refl _) (fun _ => LeO.ite (LeO.refl _) (LeO.bind (LeO.refl _) (fun _ => LeO.ite (LeO.refl _) (LeO.bind (LeO.refl _) (fun _ => LeO.ite (LeO.refl _) (LeO.bind (LeO.refl _) (fun _ => LeO.bind (impl_forking_fix.mono _ _ _ _ _ k) (fun _ => LeO.refl _))))))))))
set_option maxHeartbeats 8000000 in
set_option maxRecDepth 100000 in
theorem impl_DiagramFix.calls (k : Nat) (a0_0 : Int) (A0_1 : Option Addr) (c0_1 : Nat) (l0_1 : List S71) (n : Int) (v : Int) (value : Int) (r1 : Int) (r2 : List S71) (r3 : Int) (w : World) (hr : Kd.C k71 w A0_1 l0_1.length l0_1) (hc : l0_1.length ≤ c0_1) (h : impl_DiagramFix.f k a0_0 l0_1 n v value = some (r1, r2, r3)) :
  Calls Try.prog 16 #[.agg #[.int .i64 a0_0, .slice A0_1 l0_1.length c0_1], .int .i64 n, .int .i64 v, .int .i64 value] w fun e w' => ∃ v1_ : Value, e = .returned (.tuple #[.agg #[.int .i64 r1, v1_], .int .i64 r3]) ∧ Kd.R k71 71 w' w.heap.size (fun _ => True) v1_ r2 ∧ Below w.heap.size w w' := by
 have hu25 := Try.underlying25
 have HR := Aside0.mk hr
 have HC := Aside0.mk hc
 unfold impl_DiagramFix.f at h
 clear hr hc
 obtain ⟨t0, h0, h_⟩ := Option.bind_eq_some_iff.mp h
 clear h
 have h := h_
 have T0 := Aside0.mk h0
 clear h0 h_
 cases t0 with
 | false =>
  rw [if_pos rfl] at h
  simp only [Option.some.injEq, Prod.mk.injEq] at h
  obtain ⟨rfl, rfl, rfl⟩ := h
  go_enter Try.func16, Try.ntmps16
  go_wp2_with (first | ((with_reducible refine gate_dst (N := 4) rfl ?_); refine box_event ?hg (N := 4) ?hd (cs := #[.int .i64 a0_0, .slice A0_1 l0_1.length c0_1]) (t := 25) ?hr ?_; (case hd => rfl); (case hg => rfl); (case hr => first | (go_simp; done) | (go_simp; rfl)); intro g0 hg0 w1 hbox hb; have BD1 := Aside0.mk hbox; have HB1 := Aside0.mk hb; clear hg0 hbox hb) | ((with_reducible refine gate_dst (N := 8) rfl ?_); refine box_event ?hg (N := 8) ?hd (cs := #[.int .i64 0, .slice none 0 0]) (t := 25) ?hr ?_; (case hd => rfl); (case hg => rfl); (case hr => first | (go_simp; done) | (go_simp; rfl)); intro gr hgr w2 hbox hb; have GR := Aside0.mk (show w.heap.size ≤ gr by rw [hgr]; exact HB1.out.size); have BR2 := Aside0.mk hbox; have BD2 := Aside0.mk (blk_below BD1.out hb); have HB2 := Aside0.mk (below_step HB1.out hb); have d20 : w2.cell? ⟨g0, 0, none⟩ = some (.int .i64 a0_0) := (blk_cell BD2.out 0).trans rfl; have d21 : w2.cell? ⟨g0, 1, none⟩ = some (.slice A0_1 l0_1.length c0_1) := (blk_cell BD2.out 1).trans rfl; clear hgr hbox hb) | (go_at_call 17; (with_reducible refine (impl_DiagramValid.calls a0_0 A0_1 c0_1 l0_1 false _ (Kd.C_below HR.out HB2.out) HC.out T0.out).mono ?_); rintro e w3 ⟨rfl, hb⟩; have HB3 := Aside0.mk (below_step HB2.out hb); have BD3 := Aside0.mk (blk_below BD2.out hb); have BR3 := Aside0.mk (blk_below BR2.out hb); have d30 : w3.cell? ⟨g0, 0, none⟩ = some (.int .i64 a0_0) := (blk_cell BD3.out 0).trans rfl; have d31 : w3.cell? ⟨g0, 1, none⟩ = some (.slice A0_1 l0_1.length c0_1) := (blk_cell BD3.out 1).trans rfl; have r30 : w3.cell? ⟨gr, 0, none⟩ = some (.int .i64 0) := (blk_cell BR3.out 0).trans rfl; have r31 : w3.cell? ⟨gr, 1, none⟩ = some (.slice none 0 0) := (blk_cell BR3.out 1).trans rfl; have q30 := blk_frozen BR3.out 0; have q31 := blk_frozen BR3.out 1; clear hb))
  refine bodyPost_ret (results_ct rfl _ _ gr 25 #[.int .i64 0, .slice none 0 0] (0, 0) _ rfl (blk_put (blk_put BR3.out 0 _ rfl) 1 _ rfl) Try.underlying25 rfl (by kernel_rfl)) rfl ?_
  exact ⟨_, rfl, Kd.R_nil _ _ _ _ _, below_set (below_set HB3.out GR.out) GR.out⟩
 | true =>
  rw [if_neg (by decide)] at h
  obtain ⟨t1, h1, h_⟩ := Option.bind_eq_some_iff.mp h
  clear h
  have h := h_
  have T1 := Aside0.mk h1
  clear h1 h_
  cases t1 with
  | false =>
   rw [if_pos rfl] at h
   simp only [Option.some.injEq, Prod.mk.injEq] at h
   obtain ⟨rfl, rfl, rfl⟩ := h
   go_enter Try.func16, Try.ntmps16
   go_wp2_with (first | ((with_reducible refine gate_dst (N := 4) rfl ?_); refine box_event ?hg (N := 4) ?hd (cs := #[.int .i64 a0_0, .slice A0_1 l0_1.length c0_1]) (t := 25) ?hr ?_; (case hd => rfl); (case hg => rfl); (case hr => first | (go_simp; done) | (go_simp; rfl)); intro g0 hg0 w1 hbox hb; have BD1 := Aside0.mk hbox; have HB1 := Aside0.mk hb; clear hg0 hbox hb) | ((with_reducible refine gate_dst (N := 8) rfl ?_); refine box_event ?hg (N := 8) ?hd (cs := #[.int .i64 0, .slice none 0 0]) (t := 25) ?hr ?_; (case hd => rfl); (case hg => rfl); (case hr => first | (go_simp; done) | (go_simp; rfl)); intro gr hgr w2 hbox hb; have GR := Aside0.mk (show w.heap.size ≤ gr by rw [hgr]; exact HB1.out.size); have BR2 := Aside0.mk hbox; have BD2 := Aside0.mk (blk_below BD1.out hb); have HB2 := Aside0.mk (below_step HB1.out hb); have d20 : w2.cell? ⟨g0, 0, none⟩ = some (.int .i64 a0_0) := (blk_cell BD2.out 0).trans rfl; have d21 : w2.cell? ⟨g0, 1, none⟩ = some (.slice A0_1 l0_1.length c0_1) := (blk_cell BD2.out 1).trans rfl; clear hgr hbox hb) | (go_at_call 17; (with_reducible refine (impl_DiagramValid.calls a0_0 A0_1 c0_1 l0_1 true _ (Kd.C_below HR.out HB2.out) HC.out T0.out).mono ?_); rintro e w3 ⟨rfl, hb⟩; have HB3 := Aside0.mk (below_step HB2.out hb); have BD3 := Aside0.mk (blk_below BD2.out hb); have BR3 := Aside0.mk (blk_below BR2.out hb); have d30 : w3.cell? ⟨g0, 0, none⟩ = some (.int .i64 a0_0) := (blk_cell BD3.out 0).trans rfl; have d31 : w3.cell? ⟨g0, 1, none⟩ = some (.slice A0_1 l0_1.length c0_1) := (blk_cell BD3.out 1).trans rfl; have r30 : w3.cell? ⟨gr, 0, none⟩ = some (.int .i64 0) := (blk_cell BR3.out 0).trans rfl; have r31 : w3.cell? ⟨gr, 1, none⟩ = some (.slice none 0 0) := (blk_cell BR3.out 1).trans rfl; have q30 := blk_frozen BR3.out 0; have q31 := blk_frozen BR3.out 1; clear hb) | (go_at_call 53; (with_reducible refine (impl_Diagram_isPlace.calls a0_0 A0_1 c0_1 l0_1 n false _ (Kd.C_below HR.out HB3.out) HC.out T1.out).mono ?_); rintro e w4 ⟨rfl, hb⟩; have HB4 := Aside0.mk (below_step HB3.out hb); have BD4 := Aside0.mk (blk_below BD3.out hb); have BR4 := Aside0.mk (blk_below BR3.out hb); have d40 : w4.cell? ⟨g0, 0, none⟩ = some (.int .i64 a0_0) := (blk_cell BD4.out 0).trans rfl; have d41 : w4.cell? ⟨g0, 1, none⟩ = some (.slice A0_1 l0_1.length c0_1) := (blk_cell BD4.out 1).trans rfl; have r40 : w4.cell? ⟨gr, 0, none⟩ = some (.int .i64 0) := (blk_cell BR4.out 0).trans rfl; have r41 : w4.cell? ⟨gr, 1, none⟩ = some (.slice none 0 0) := (blk_cell BR4.out 1).trans rfl; have q40 := blk_frozen BR4.out 0; have q41 := blk_frozen BR4.out 1; clear hb))
   refine bodyPost_ret (results_ct rfl _ _ gr 25 #[.int .i64 0, .slice none 0 0] (0, 0) _ rfl (blk_put (blk_put BR4.out 0 _ rfl) 1 _ rfl) Try.underlying25 rfl (by kernel_rfl)) rfl ?_
   exact ⟨_, rfl, Kd.R_nil _ _ _ _ _, below_set (below_set HB4.out GR.out) GR.out⟩
  | true =>
   rw [if_neg (by decide)] at h
   obtain ⟨t2, h2, h_⟩ := Option.bind_eq_some_iff.mp h
   clear h
   have h := h_
   have T2 := Aside0.mk h2
   clear h2 h_
   cases t2 with
   | false =>
    rw [if_pos rfl] at h
    simp only [Option.some.injEq, Prod.mk.injEq] at h
    obtain ⟨rfl, rfl, rfl⟩ := h
    go_enter Try.func16, Try.ntmps16
    go_wp2_with (first | ((with_reducible refine gate_dst (N := 4) rfl ?_); refine box_event ?hg (N := 4) ?hd (cs := #[.int .i64 a0_0, .slice A0_1 l0_1.length c0_1]) (t := 25) ?hr ?_; (case hd => rfl); (case hg => rfl); (case hr => first | (go_simp; done) | (go_simp; rfl)); intro g0 hg0 w1 hbox hb; have BD1 := Aside0.mk hbox; have HB1 := Aside0.mk hb; clear hg0 hbox hb) | ((with_reducible refine gate_dst (N := 8) rfl ?_); refine box_event ?hg (N := 8) ?hd (cs := #[.int .i64 0, .slice none 0 0]) (t := 25) ?hr ?_; (case hd => rfl); (case hg => rfl); (case hr => first | (go_simp; done) | (go_simp; rfl)); intro gr hgr w2 hbox hb; have GR := Aside0.mk (show w.heap.size ≤ gr by rw [hgr]; exact HB1.out.size); have BR2 := Aside0.mk hbox; have BD2 := Aside0.mk (blk_below BD1.out hb); have HB2 := Aside0.mk (below_step HB1.out hb); have d20 : w2.cell? ⟨g0, 0, none⟩ = some (.int .i64 a0_0) := (blk_cell BD2.out 0).trans rfl; have d21 : w2.cell? ⟨g0, 1, none⟩ = some (.slice A0_1 l0_1.length c0_1) := (blk_cell BD2.out 1).trans rfl; clear hgr hbox hb) | (go_at_call 17; (with_reducible refine (impl_DiagramValid.calls a0_0 A0_1 c0_1 l0_1 true _ (Kd.C_below HR.out HB2.out) HC.out T0.out).mono ?_); rintro e w3 ⟨rfl, hb⟩; have HB3 := Aside0.mk (below_step HB2.out hb); have BD3 := Aside0.mk (blk_below BD2.out hb); have BR3 := Aside0.mk (blk_below BR2.out hb); have d30 : w3.cell? ⟨g0, 0, none⟩ = some (.int .i64 a0_0) := (blk_cell BD3.out 0).trans rfl; have d31 : w3.cell? ⟨g0, 1, none⟩ = some (.slice A0_1 l0_1.length c0_1) := (blk_cell BD3.out 1).trans rfl; have r30 : w3.cell? ⟨gr, 0, none⟩ = some (.int .i64 0) := (blk_cell BR3.out 0).trans rfl; have r31 : w3.cell? ⟨gr, 1, none⟩ = some (.slice none 0 0) := (blk_cell BR3.out 1).trans rfl; have q30 := blk_frozen BR3.out 0; have q31 := blk_frozen BR3.out 1; clear hb) | (go_at_call 53; (with_reducible refine (impl_Diagram_isPlace.calls a0_0 A0_1 c0_1 l0_1 n true _ (Kd.C_below HR.out HB3.out) HC.out T1.out).mono ?_); rintro e w4 ⟨rfl, hb⟩; have HB4 := Aside0.mk (below_step HB3.out hb); have BD4 := Aside0.mk (blk_below BD3.out hb); have BR4 := Aside0.mk (blk_below BR3.out hb); have d40 : w4.cell? ⟨g0, 0, none⟩ = some (.int .i64 a0_0) := (blk_cell BD4.out 0).trans rfl; have d41 : w4.cell? ⟨g0, 1, none⟩ = some (.slice A0_1 l0_1.length c0_1) := (blk_cell BD4.out 1).trans rfl; have r40 : w4.cell? ⟨gr, 0, none⟩ = some (.int .i64 0) := (blk_cell BR4.out 0).trans rfl; have r41 : w4.cell? ⟨gr, 1, none⟩ = some (.slice none 0 0) := (blk_cell BR4.out 1).trans rfl; have q40 := blk_frozen BR4.out 0; have q41 := blk_frozen BR4.out 1; clear hb) | (go_at_call 52; (with_reducible refine (impl_in.calls v 0 (wrap64 (a0_0 - 1)) false _ T2.out).mono ?_); rintro e w5 ⟨rfl, hb⟩; replace hb := hb.below; have HB5 := Aside0.mk (below_step HB4.out hb); have BD5 := Aside0.mk (blk_below BD4.out hb); have BR5 := Aside0.mk (blk_below BR4.out hb); have d50 : w5.cell? ⟨g0, 0, none⟩ = some (.int .i64 a0_0) := (blk_cell BD5.out 0).trans rfl; have d51 : w5.cell? ⟨g0, 1, none⟩ = some (.slice A0_1 l0_1.length c0_1) := (blk_cell BD5.out 1).trans rfl; have r50 : w5.cell? ⟨gr, 0, none⟩ = some (.int .i64 0) := (blk_cell BR5.out 0).trans rfl; have r51 : w5.cell? ⟨gr, 1, none⟩ = some (.slice none 0 0) := (blk_cell BR5.out 1).trans rfl; have q50 := blk_frozen BR5.out 0; have q51 := blk_frozen BR5.out 1; clear hb))
    refine bodyPost_ret (results_ct rfl _ _ gr 25 #[.int .i64 0, .slice none 0 0] (0, 0) _ rfl (blk_put (blk_put BR5.out 0 _ rfl) 1 _ rfl) Try.underlying25 rfl (by kernel_rfl)) rfl ?_
    exact ⟨_, rfl, Kd.R_nil _ _ _ _ _, below_set (below_set HB5.out GR.out) GR.out⟩
   | true =>
    rw [if_neg (by decide)] at h
    obtain ⟨t3, h3, h_⟩ := Option.bind_eq_some_iff.mp h
    clear h
    have h := h_
    have T3 := Aside0.mk h3
    clear h3 h_
    cases t3 with
    | false =>
     rw [if_pos rfl] at h
     simp only [Option.some.injEq, Prod.mk.injEq] at h
     obtain ⟨rfl, rfl, rfl⟩ := h
     go_enter Try.func16, Try.ntmps16
     go_wp2_with (first | ((with_reducible refine gate_dst (N := 4) rfl ?_); refine box_event ?hg (N := 4) ?hd (cs := #[.int .i64 a0_0, .slice A0_1 l0_1.length c0_1]) (t := 25) ?hr ?_; (case hd => rfl); (case hg => rfl); (case hr => first | (go_simp; done) | (go_simp; rfl)); intro g0 hg0 w1 hbox hb; have BD1 := Aside0.mk hbox; have HB1 := Aside0.mk hb; clear hg0 hbox hb) | ((with_reducible refine gate_dst (N := 8) rfl ?_); refine box_event ?hg (N := 8) ?hd (cs := #[.int .i64 0, .slice none 0 0]) (t := 25) ?hr ?_; (case hd => rfl); (case hg => rfl); (case hr => first | (go_simp; done) | (go_simp; rfl)); intro gr hgr w2 hbox hb; have GR := Aside0.mk (show w.heap.size ≤ gr by rw [hgr]; exact HB1.out.size); have BR2 := Aside0.mk hbox; have BD2 := Aside0.mk (blk_below BD1.out hb); have HB2 := Aside0.mk (below_step HB1.out hb); have d20 : w2.cell? ⟨g0, 0, none⟩ = some (.int .i64 a0_0) := (blk_cell BD2.out 0).trans rfl; have d21 : w2.cell? ⟨g0, 1, none⟩ = some (.slice A0_1 l0_1.length c0_1) := (blk_cell BD2.out 1).trans rfl; clear hgr hbox hb) | (go_at_call 17; (with_reducible refine (impl_DiagramValid.calls a0_0 A0_1 c0_1 l0_1 true _ (Kd.C_below HR.out HB2.out) HC.out T0.out).mono ?_); rintro e w3 ⟨rfl, hb⟩; have HB3 := Aside0.mk (below_step HB2.out hb); have BD3 := Aside0.mk (blk_below BD2.out hb); have BR3 := Aside0.mk (blk_below BR2.out hb); have d30 : w3.cell? ⟨g0, 0, none⟩ = some (.int .i64 a0_0) := (blk_cell BD3.out 0).trans rfl; have d31 : w3.cell? ⟨g0, 1, none⟩ = some (.slice A0_1 l0_1.length c0_1) := (blk_cell BD3.out 1).trans rfl; have r30 : w3.cell? ⟨gr, 0, none⟩ = some (.int .i64 0) := (blk_cell BR3.out 0).trans rfl; have r31 : w3.cell? ⟨gr, 1, none⟩ = some (.slice none 0 0) := (blk_cell BR3.out 1).trans rfl; have q30 := blk_frozen BR3.out 0; have q31 := blk_frozen BR3.out 1; clear hb) | (go_at_call 53; (with_reducible refine (impl_Diagram_isPlace.calls a0_0 A0_1 c0_1 l0_1 n true _ (Kd.C_below HR.out HB3.out) HC.out T1.out).mono ?_); rintro e w4 ⟨rfl, hb⟩; have HB4 := Aside0.mk (below_step HB3.out hb); have BD4 := Aside0.mk (blk_below BD3.out hb); have BR4 := Aside0.mk (blk_below BR3.out hb); have d40 : w4.cell? ⟨g0, 0, none⟩ = some (.int .i64 a0_0) := (blk_cell BD4.out 0).trans rfl; have d41 : w4.cell? ⟨g0, 1, none⟩ = some (.slice A0_1 l0_1.length c0_1) := (blk_cell BD4.out 1).trans rfl; have r40 : w4.cell? ⟨gr, 0, none⟩ = some (.int .i64 0) := (blk_cell BR4.out 0).trans rfl; have r41 : w4.cell? ⟨gr, 1, none⟩ = some (.slice none 0 0) := (blk_cell BR4.out 1).trans rfl; have q40 := blk_frozen BR4.out 0; have q41 := blk_frozen BR4.out 1; clear hb) | (go_at_call 52; (with_reducible refine (impl_in.calls v 0 (wrap64 (a0_0 - 1)) true _ T2.out).mono ?_); rintro e w5 ⟨rfl, hb⟩; replace hb := hb.below; have HB5 := Aside0.mk (below_step HB4.out hb); have BD5 := Aside0.mk (blk_below BD4.out hb); have BR5 := Aside0.mk (blk_below BR4.out hb); have d50 : w5.cell? ⟨g0, 0, none⟩ = some (.int .i64 a0_0) := (blk_cell BD5.out 0).trans rfl; have d51 : w5.cell? ⟨g0, 1, none⟩ = some (.slice A0_1 l0_1.length c0_1) := (blk_cell BD5.out 1).trans rfl; have r50 : w5.cell? ⟨gr, 0, none⟩ = some (.int .i64 0) := (blk_cell BR5.out 0).trans rfl; have r51 : w5.cell? ⟨gr, 1, none⟩ = some (.slice none 0 0) := (blk_cell BR5.out 1).trans rfl; have q50 := blk_frozen BR5.out 0; have q51 := blk_frozen BR5.out 1; clear hb) | (go_at_call 52; (with_reducible refine (impl_in.calls value 0 1 false _ T3.out).mono ?_); rintro e w6 ⟨rfl, hb⟩; replace hb := hb.below; have HB6 := Aside0.mk (below_step HB5.out hb); have BD6 := Aside0.mk (blk_below BD5.out hb); have BR6 := Aside0.mk (blk_below BR5.out hb); have d60 : w6.cell? ⟨g0, 0, none⟩ = some (.int .i64 a0_0) := (blk_cell BD6.out 0).trans rfl; have d61 : w6.cell? ⟨g0, 1, none⟩ = some (.slice A0_1 l0_1.length c0_1) := (blk_cell BD6.out 1).trans rfl; have r60 : w6.cell? ⟨gr, 0, none⟩ = some (.int .i64 0) := (blk_cell BR6.out 0).trans rfl; have r61 : w6.cell? ⟨gr, 1, none⟩ = some (.slice none 0 0) := (blk_cell BR6.out 1).trans rfl; have q60 := blk_frozen BR6.out 0; have q61 := blk_frozen BR6.out 1; clear hb))
     refine bodyPost_ret (results_ct rfl _ _ gr 25 #[.int .i64 0, .slice none 0 0] (0, 0) _ rfl (blk_put (blk_put BR6.out 0 _ rfl) 1 _ rfl) Try.underlying25 rfl (by kernel_rfl)) rfl ?_
     exact ⟨_, rfl, Kd.R_nil _ _ _ _ _, below_set (below_set HB6.out GR.out) GR.out⟩
    | true =>
     rw [if_neg (by decide)] at h
     obtain ⟨s, hs, h_⟩ := Option.bind_eq_some_iff.mp h
     obtain ⟨⟨s2, mm, r⟩, hp, hd⟩ := Option.bind_eq_some_iff.mp h_
     have TS := Aside0.mk hs
     have TP := Aside0.mk hp
     have TD := Aside0.mk hd
     clear h h_ hs hp hd
     go_enter Try.func16, Try.ntmps16
     go_wp2_with (first | ((with_reducible refine gate_dst (N := 4) rfl ?_); refine box_event ?hg (N := 4) ?hd (cs := #[.int .i64 a0_0, .slice A0_1 l0_1.length c0_1]) (t := 25) ?hr ?_; (case hd => rfl); (case hg => rfl); (case hr => first | (go_simp; done) | (go_simp; rfl)); intro g0 hg0 w1 hbox hb; have BD1 := Aside0.mk hbox; have HB1 := Aside0.mk hb; clear hg0 hbox hb) | ((with_reducible refine gate_dst (N := 8) rfl ?_); refine box_event ?hg (N := 8) ?hd (cs := #[.int .i64 0, .slice none 0 0]) (t := 25) ?hr ?_; (case hd => rfl); (case hg => rfl); (case hr => first | (go_simp; done) | (go_simp; rfl)); intro gr hgr w2 hbox hb; have GR := Aside0.mk (show w.heap.size ≤ gr by rw [hgr]; exact HB1.out.size); have BR2 := Aside0.mk hbox; have BD2 := Aside0.mk (blk_below BD1.out hb); have HB2 := Aside0.mk (below_step HB1.out hb); have d20 : w2.cell? ⟨g0, 0, none⟩ = some (.int .i64 a0_0) := (blk_cell BD2.out 0).trans rfl; have d21 : w2.cell? ⟨g0, 1, none⟩ = some (.slice A0_1 l0_1.length c0_1) := (blk_cell BD2.out 1).trans rfl; clear hgr hbox hb) | (go_at_call 17; (with_reducible refine (impl_DiagramValid.calls a0_0 A0_1 c0_1 l0_1 true _ (Kd.C_below HR.out HB2.out) HC.out T0.out).mono ?_); rintro e w3 ⟨rfl, hb⟩; have HB3 := Aside0.mk (below_step HB2.out hb); have BD3 := Aside0.mk (blk_below BD2.out hb); have BR3 := Aside0.mk (blk_below BR2.out hb); have d30 : w3.cell? ⟨g0, 0, none⟩ = some (.int .i64 a0_0) := (blk_cell BD3.out 0).trans rfl; have d31 : w3.cell? ⟨g0, 1, none⟩ = some (.slice A0_1 l0_1.length c0_1) := (blk_cell BD3.out 1).trans rfl; have r30 : w3.cell? ⟨gr, 0, none⟩ = some (.int .i64 0) := (blk_cell BR3.out 0).trans rfl; have r31 : w3.cell? ⟨gr, 1, none⟩ = some (.slice none 0 0) := (blk_cell BR3.out 1).trans rfl; have q30 := blk_frozen BR3.out 0; have q31 := blk_frozen BR3.out 1; clear hb) | (go_at_call 53; (with_reducible refine (impl_Diagram_isPlace.calls a0_0 A0_1 c0_1 l0_1 n true _ (Kd.C_below HR.out HB3.out) HC.out T1.out).mono ?_); rintro e w4 ⟨rfl, hb⟩; have HB4 := Aside0.mk (below_step HB3.out hb); have BD4 := Aside0.mk (blk_below BD3.out hb); have BR4 := Aside0.mk (blk_below BR3.out hb); have d40 : w4.cell? ⟨g0, 0, none⟩ = some (.int .i64 a0_0) := (blk_cell BD4.out 0).trans rfl; have d41 : w4.cell? ⟨g0, 1, none⟩ = some (.slice A0_1 l0_1.length c0_1) := (blk_cell BD4.out 1).trans rfl; have r40 : w4.cell? ⟨gr, 0, none⟩ = some (.int .i64 0) := (blk_cell BR4.out 0).trans rfl; have r41 : w4.cell? ⟨gr, 1, none⟩ = some (.slice none 0 0) := (blk_cell BR4.out 1).trans rfl; have q40 := blk_frozen BR4.out 0; have q41 := blk_frozen BR4.out 1; clear hb) | (go_at_call 52; (with_reducible refine (impl_in.calls v 0 (wrap64 (a0_0 - 1)) true _ T2.out).mono ?_); rintro e w5 ⟨rfl, hb⟩; replace hb := hb.below; have HB5 := Aside0.mk (below_step HB4.out hb); have BD5 := Aside0.mk (blk_below BD4.out hb); have BR5 := Aside0.mk (blk_below BR4.out hb); have d50 : w5.cell? ⟨g0, 0, none⟩ = some (.int .i64 a0_0) := (blk_cell BD5.out 0).trans rfl; have d51 : w5.cell? ⟨g0, 1, none⟩ = some (.slice A0_1 l0_1.length c0_1) := (blk_cell BD5.out 1).trans rfl; have r50 : w5.cell? ⟨gr, 0, none⟩ = some (.int .i64 0) := (blk_cell BR5.out 0).trans rfl; have r51 : w5.cell? ⟨gr, 1, none⟩ = some (.slice none 0 0) := (blk_cell BR5.out 1).trans rfl; have q50 := blk_frozen BR5.out 0; have q51 := blk_frozen BR5.out 1; clear hb) | (go_at_call 52; (with_reducible refine (impl_in.calls value 0 1 true _ T3.out).mono ?_); rintro e w6 ⟨rfl, hb⟩; replace hb := hb.below; have HB6 := Aside0.mk (below_step HB5.out hb); have BD6 := Aside0.mk (blk_below BD5.out hb); have BR6 := Aside0.mk (blk_below BR5.out hb); have d60 : w6.cell? ⟨g0, 0, none⟩ = some (.int .i64 a0_0) := (blk_cell BD6.out 0).trans rfl; have d61 : w6.cell? ⟨g0, 1, none⟩ = some (.slice A0_1 l0_1.length c0_1) := (blk_cell BD6.out 1).trans rfl; have r60 : w6.cell? ⟨gr, 0, none⟩ = some (.int .i64 0) := (blk_cell BR6.out 0).trans rfl; have r61 : w6.cell? ⟨gr, 1, none⟩ = some (.slice none 0 0) := (blk_cell BR6.out 1).trans rfl; have q60 := blk_frozen BR6.out 0; have q61 := blk_frozen BR6.out 1; clear hb) | (go_at_call 55; (with_reducible refine (impl_forkingOf.calls a0_0 A0_1 c0_1 l0_1 s _ (Kd.C_below HR.out HB6.out) HC.out TS.out).mono ?_); rintro e wF ⟨g, rfl, hi, hb⟩; have IF := Aside0.mk hi; have HBF := Aside0.mk hb; clear hi hb) | ((with_reducible refine gate_ (op := .makeMap 83 none) rfl ?_); refine Mp.made_event rfl (N := 41) rfl 83 rfl (Value.int .i64) KeyI (Value.int .i64) ?_; intro mb hmb wM hM_ hb; have IM : Aside0 (IsF wM w6.heap.size (fun k_ => w6.heap.size ≤ k_ ∧ k_ ≠ mb) g s) := ⟨IsF.mono (IF.out.bound.below hb) (fun k_ hk_ => ⟨hk_.1, fun e_ => by have := hk_.2.2; omega⟩)⟩; have MM := Aside0.mk hM_; have BM := Aside0.mk (below_then HBF.out HBF.out.size hb); have MB : Aside0 (w6.heap.size ≤ mb ∧ ¬ (w6.heap.size ≤ mb ∧ mb ≠ mb)) := ⟨⟨by rw [hmb]; exact HBF.out.size, fun h_ => h_.2 rfl⟩⟩; have HFX : Aside0 (∀ k_, wM.heap.size ≤ k_ → w6.heap.size ≤ k_ ∧ k_ ≠ mb) := ⟨fun k_ h_ => ⟨Nat.le_trans BM.out.size h_, fun e_ => by have := hM_.lt; omega⟩⟩; clear hmb hM_ hb) | (go_at_call 63; (with_reducible refine (impl_forking_fix.calls k s s2 n v value r (fun _ => none) mm mb _ g w6 _ BM.out IM.out MM.out MB.out HFX.out TP.out).mono ?_); rintro e wG ⟨rfl, hi_, hm_, hb_, hk_⟩; have IG := Aside0.mk hi_; have HBG := Aside0.mk hb_; clear hi_ hm_ hb_ hk_) | (go_at_call 56; (with_reducible refine (impl_forking_done.calls s2 r r1 r2 r3 _ _ g _ IG.out TD.out).mono ?_); rintro e wD ⟨v1, rfl, hR, hb⟩; obtain ⟨A5, c5, rfl⟩ := Kd.R_slice hR; have HBD := Aside0.mk (below_then HBG.out HBG.out.size hb); have BRD := Aside0.mk (blk_below BR6.out HBD.out); have RD := Aside0.mk (Kd.R_lower hR (Nat.le_trans HB6.out.size HBG.out.size)); have r90 : wD.cell? ⟨gr, 0, none⟩ = some (.int .i64 0) := (blk_cell BRD.out 0).trans rfl; have r91 : wD.cell? ⟨gr, 1, none⟩ = some (.slice none 0 0) := (blk_cell BRD.out 1).trans rfl; have q90 := blk_frozen BRD.out 0; have q91 := blk_frozen BRD.out 1; clear hR hb))
     refine bodyPost_ret (results_ct rfl _ _ gr 25 #[.int .i64 r1, .slice A5 r2.length c5] (0, 0) _ rfl (blk_put (blk_put BRD.out 0 _ rfl) 1 _ rfl) Try.underlying25 rfl (by kernel_rfl)) rfl ?_
     exact ⟨_, rfl, Kd.R_mono (Kd.R_far (p := ⟨gr, 1, none⟩) (Kd.R_far (p := ⟨gr, 0, none⟩) (Kd.R_types RD.out BRD.out (by decide)) (fun _ hk => hk.2) _) (fun _ hk => hk.2) _) (fun _ _ => trivial), below_set (below_set (below_step HB6.out HBD.out) GR.out) GR.out⟩

/-! ### laws_szForkS: function 64 -/
def laws_szForkS.f (l0 : List (S116)) (a1 : Int) : Option (Int) := if (wrap64 (a1 - (l0.length : Int))) < 0 then (some (-1)) else (some (wrap64 (a1 - (l0.length : Int))))
set_option maxHeartbeats 8000000 in
set_option maxRecDepth 100000 in
theorem laws_szForkS.calls (A0 : Option Addr) (c0 : Nat) (l0 : List (S116)) (a1 : Int) (r : Int) (w : World) (hr0 : Kd.C k116 w A0 l0.length l0) (hc0 : l0.length ≤ c0) (h : laws_szForkS.f l0 a1 = some r) :
  Calls Try.prog 64 #[.slice A0 l0.length c0, .int .i64 a1] w fun e w' => e = .returned (.int .i64 r) ∧ Drawn0 w w' := by
 have HR0 := Aside0.mk hr0
 have HC0 := Aside0.mk hc0
 clear hr0 hc0
 have H : (if (wrap64 (a1 - (l0.length : Int))) < 0 then (some (-1)) else (some (wrap64 (a1 - (l0.length : Int))))) = some r := h
 clear h
 by_cases c3 : (wrap64 (a1 - (l0.length : Int))) < 0
 ·rw [if_pos c3] at H
  have c3b0 : decide ((wrap64 (a1 - (l0.length : Int))) < 0) = true := decide_eq_true c3
  clear c3
  obtain rfl := Option.some.inj H
  go_enter Try.func64, Try.ntmps64
  go_wp2
  go_ret
  exact ⟨by first | rfl | (simp; done) | (simp [*]; done), by repeat (first | exact Drawn0.refl _ | apply Drawn0.step)⟩
 ·rw [if_neg c3] at H
  have c3b0 : decide ((wrap64 (a1 - (l0.length : Int))) < 0) = false := decide_eq_false c3
  clear c3
  obtain rfl := Option.some.inj H
  go_enter Try.func64, Try.ntmps64
  go_wp2
  go_ret
  exact ⟨by first | rfl | (simp; done) | (simp [*]; done), by repeat (first | exact Drawn0.refl _ | apply Drawn0.step)⟩

/-! ### laws_szDiagram: function 18 -/
def laws_szDiagram.f (a0_0 : Int) (l0_1 : List (S116)) (a1 : Int) : Option (Int) := (laws_szForkS.f l0_1 a1).bind fun t112 => (if t112 < 0 then (some (-1)) else (some t112))
set_option maxHeartbeats 8000000 in
set_option maxRecDepth 100000 in
theorem laws_szDiagram.calls (a0_0 : Int) (A0_1 : Option Addr) (c0_1 : Nat) (l0_1 : List (S116)) (a1 : Int) (r : Int) (w : World) (hr0_1 : Kd.C k116 w A0_1 l0_1.length l0_1) (hc0_1 : l0_1.length ≤ c0_1) (h : laws_szDiagram.f a0_0 l0_1 a1 = some r) :
  Calls Try.prog 18 #[.agg #[.int .i64 a0_0, .slice A0_1 l0_1.length c0_1], .int .i64 a1] w fun e w' => e = .returned (.int .i64 r) ∧ Below w.heap.size w w' := by
 have hu34 := Try.underlying34
 have HR0_1 := Aside0.mk hr0_1
 have HC0_1 := Aside0.mk hc0_1
 clear hr0_1 hc0_1
 have HB := Aside0.mk (Below.refl w.heap.size w)
 have H : ((laws_szForkS.f l0_1 a1).bind fun t112 => (if t112 < 0 then (some (-1)) else (some t112))) = some r := h
 clear h
 replace H := Option.bind_eq_some_iff.mp H
 obtain ⟨t112, A30, H⟩ := H
 replace H : (if t112 < 0 then (some (-1)) else (some t112)) = some r := H
 have A3 := Aside0.mk A30
 clear A30
 by_cases c4 : t112 < 0
 ·rw [if_pos c4] at H
  have c4b0 : decide (t112 < 0) = true := decide_eq_true c4
  clear c4
  obtain rfl := Option.some.inj H
  go_enter Try.func18, Try.ntmps18
  go_wp2_with (first | ((with_reducible refine gate_dst (N := 2) rfl ?_); refine box_event ?hg (N := 2) ?hd (cs := #[.int .i64 a0_0, .slice A0_1 l0_1.length c0_1]) (t := 34) ?hr ?_; (case hd => rfl); (case hg => rfl); (case hr => first | (go_simp; done) | (go_simp; rfl)); intro gb111 hg w5 hbox hb; have n0_ := Aside0.mk (below_step (by repeat (first | (with_reducible first | exact HB.out | apply bwA | apply bwN | apply bwD) | exact HB.out)) hb); have n1_ := Aside0.mk (hbox); have n2_ := Aside0.mk ((by rw [hg]; exact (below_size (by repeat (first | (with_reducible first | exact HB.out | apply bwA | apply bwN | apply bwD) | exact HB.out))) : w.heap.size ≤ gb111)); have n3_ := Aside0.mk ((by rw [hg]; exact (below_size (by repeat (first | (with_reducible first | exact HB.out | apply bwA | apply bwN | apply bwD) | exact HB.out))) : w.heap.size ≤ gb111)); clear HB; have HB := n0_; have BK111 := n1_; have GW111 := n2_; have GE111 := n3_; clear n0_ n1_ n2_ n3_; clear hb hbox hg; have hcz6_0 : w5.cell? ⟨gb111, 0, none⟩ = some (.int .i64 a0_0) := (blk_cell BK111.out 0).trans rfl; have hcz6_1 : w5.cell? ⟨gb111, 1, none⟩ = some (.slice A0_1 l0_1.length c0_1) := (blk_cell BK111.out 1).trans rfl; have hfz6_0 := blk_frozen BK111.out 0; have hfz6_1 := blk_frozen BK111.out 1) | ((with_reducible refine gate_callee (f := 64) rfl ?_); refine goesL_ (some 8) rfl rfl Try.func64 (by kernel_rfl) rfl #[.slice A0_1 l0_1.length c0_1, .int .i64 a1] rfl (by (try simp only [List.map_toArray, List.map_cons, List.map_nil]); first | done | rfl | (simp only [List.length_drop, List.length_take]; rfl)) ?_; (with_reducible refine (laws_szForkS.calls _ _ l0_1 a1 t112 _ ?side1 ?side2 A3.out).mono ?_); (case side1 => repeat (first | exact (Kd.C_below HR0_1.out HB.out) | (with_reducible refine Kd.C_alloc ?_ _) | (with_reducible refine Kd.C_drewN ?_ _) | (with_reducible refine Kd.C_drew ?_))); (case side2 => exact HC0_1.out); rintro e w' ⟨rfl, ⟨nd, rfl⟩⟩; refine ⟨_, rfl, ?_⟩))
  go_ret
  exact ⟨by first | rfl | (simp [errW_none, errW_some] <;> rfl) | (simp [*, errW_none, errW_some] <;> rfl), by repeat (first | (with_reducible first | exact HB.out | apply bwA | apply bwN | apply bwD | refine below_set ?_ GE111.out) | exact HB.out)⟩
 ·rw [if_neg c4] at H
  have c4b0 : decide (t112 < 0) = false := decide_eq_false c4
  clear c4
  obtain rfl := Option.some.inj H
  go_enter Try.func18, Try.ntmps18
  go_wp2_with (first | ((with_reducible refine gate_dst (N := 2) rfl ?_); refine box_event ?hg (N := 2) ?hd (cs := #[.int .i64 a0_0, .slice A0_1 l0_1.length c0_1]) (t := 34) ?hr ?_; (case hd => rfl); (case hg => rfl); (case hr => first | (go_simp; done) | (go_simp; rfl)); intro gb111 hg w7 hbox hb; have n0_ := Aside0.mk (below_step (by repeat (first | (with_reducible first | exact HB.out | apply bwA | apply bwN | apply bwD) | exact HB.out)) hb); have n1_ := Aside0.mk (hbox); have n2_ := Aside0.mk ((by rw [hg]; exact (below_size (by repeat (first | (with_reducible first | exact HB.out | apply bwA | apply bwN | apply bwD) | exact HB.out))) : w.heap.size ≤ gb111)); have n3_ := Aside0.mk ((by rw [hg]; exact (below_size (by repeat (first | (with_reducible first | exact HB.out | apply bwA | apply bwN | apply bwD) | exact HB.out))) : w.heap.size ≤ gb111)); clear HB; have HB := n0_; have BK111 := n1_; have GW111 := n2_; have GE111 := n3_; clear n0_ n1_ n2_ n3_; clear hb hbox hg; have hcz8_0 : w7.cell? ⟨gb111, 0, none⟩ = some (.int .i64 a0_0) := (blk_cell BK111.out 0).trans rfl; have hcz8_1 : w7.cell? ⟨gb111, 1, none⟩ = some (.slice A0_1 l0_1.length c0_1) := (blk_cell BK111.out 1).trans rfl; have hfz8_0 := blk_frozen BK111.out 0; have hfz8_1 := blk_frozen BK111.out 1) | ((with_reducible refine gate_callee (f := 64) rfl ?_); refine goesL_ (some 8) rfl rfl Try.func64 (by kernel_rfl) rfl #[.slice A0_1 l0_1.length c0_1, .int .i64 a1] rfl (by (try simp only [List.map_toArray, List.map_cons, List.map_nil]); first | done | rfl | (simp only [List.length_drop, List.length_take]; rfl)) ?_; (with_reducible refine (laws_szForkS.calls _ _ l0_1 a1 t112 _ ?side1 ?side2 A3.out).mono ?_); (case side1 => repeat (first | exact (Kd.C_below HR0_1.out HB.out) | (with_reducible refine Kd.C_alloc ?_ _) | (with_reducible refine Kd.C_drewN ?_ _) | (with_reducible refine Kd.C_drew ?_))); (case side2 => exact HC0_1.out); rintro e w' ⟨rfl, ⟨nd, rfl⟩⟩; refine ⟨_, rfl, ?_⟩))
  go_ret
  exact ⟨by first | rfl | (simp [errW_none, errW_some] <;> rfl) | (simp [*, errW_none, errW_some] <;> rfl), by repeat (first | (with_reducible first | exact HB.out | apply bwA | apply bwN | apply bwD | refine below_set ?_ GE111.out) | exact HB.out)⟩

/-! ### spec_l1In: function 65 -/
def spec_l1In.f (a0 : Int) (a1 : Int) (a2 : Int) : Option (Bool) := if a0 ≥ a1 then (some (decide (a0 ≤ a2))) else (some false)
set_option maxHeartbeats 8000000 in
set_option maxRecDepth 100000 in
theorem spec_l1In.calls (a0 : Int) (a1 : Int) (a2 : Int) (r : Bool) (w : World) (h : spec_l1In.f a0 a1 a2 = some r) :
  Calls Try.prog 65 #[.int .i64 a0, .int .i64 a1, .int .i64 a2] w fun e w' => e = .returned (.bool r) ∧ Drawn0 w w' := by
 have H : (if a0 ≥ a1 then (some (decide (a0 ≤ a2))) else (some false)) = some r := h
 clear h
 by_cases c4 : a0 ≥ a1
 ·rw [if_pos c4] at H
  have c4b0 : decide (a1 ≤ a0) = true := decide_eq_true c4
  clear c4
  obtain rfl := Option.some.inj H
  go_enter Try.func65, Try.ntmps65
  go_wp2
  go_ret
  exact ⟨by first | rfl | (simp; done) | (simp [*]; done), by repeat (first | exact Drawn0.refl _ | apply Drawn0.step)⟩
 ·rw [if_neg c4] at H
  have c4b0 : decide (a1 ≤ a0) = false := decide_eq_false c4
  clear c4
  obtain rfl := Option.some.inj H
  go_enter Try.func65, Try.ntmps65
  go_wp2
  go_ret
  exact ⟨by first | rfl | (simp; done) | (simp [*]; done), by repeat (first | exact Drawn0.refl _ | apply Drawn0.step)⟩

/-! ### spec_l8Place: function 50 -/
def spec_l8Place.f (a0_0 : Int) (l0_1 : List (S71)) (a1 : Int) : Option (Bool) := (spec_l1In.f a1 0 (wrap64 ((l0_1.length : Int) + 1))).bind fun t114 => (some t114)
set_option maxHeartbeats 8000000 in
set_option maxRecDepth 100000 in
theorem spec_l8Place.calls (a0_0 : Int) (A0_1 : Option Addr) (c0_1 : Nat) (l0_1 : List (S71)) (a1 : Int) (r : Bool) (w : World) (hr0_1 : Kd.C k71 w A0_1 l0_1.length l0_1) (hc0_1 : l0_1.length ≤ c0_1) (h : spec_l8Place.f a0_0 l0_1 a1 = some r) :
  Calls Try.prog 50 #[.agg #[.int .i64 a0_0, .slice A0_1 l0_1.length c0_1], .int .i64 a1] w fun e w' => e = .returned (.bool r) ∧ Below w.heap.size w w' := by
 have hu25 := Try.underlying25
 have HR0_1 := Aside0.mk hr0_1
 have HC0_1 := Aside0.mk hc0_1
 clear hr0_1 hc0_1
 have HB := Aside0.mk (Below.refl w.heap.size w)
 have H : ((spec_l1In.f a1 0 (wrap64 ((l0_1.length : Int) + 1))).bind fun t114 => (some t114)) = some r := h
 clear h
 replace H := Option.bind_eq_some_iff.mp H
 obtain ⟨t114, A30, H⟩ := H
 replace H : (some t114) = some r := H
 have A3 := Aside0.mk A30
 clear A30
 obtain rfl := Option.some.inj H
 go_enter Try.func50, Try.ntmps50
 go_wp2_with (first | ((with_reducible refine gate_dst (N := 2) rfl ?_); refine box_event ?hg (N := 2) ?hd (cs := #[.int .i64 a0_0, .slice A0_1 l0_1.length c0_1]) (t := 25) ?hr ?_; (case hd => rfl); (case hg => rfl); (case hr => first | (go_simp; done) | (go_simp; rfl)); intro gb113 hg w4 hbox hb; have n0_ := Aside0.mk (below_step (by repeat (first | (with_reducible first | exact HB.out | apply bwA | apply bwN | apply bwD) | exact HB.out)) hb); have n1_ := Aside0.mk (hbox); have n2_ := Aside0.mk ((by rw [hg]; exact (below_size (by repeat (first | (with_reducible first | exact HB.out | apply bwA | apply bwN | apply bwD) | exact HB.out))) : w.heap.size ≤ gb113)); have n3_ := Aside0.mk ((by rw [hg]; exact (below_size (by repeat (first | (with_reducible first | exact HB.out | apply bwA | apply bwN | apply bwD) | exact HB.out))) : w.heap.size ≤ gb113)); clear HB; have HB := n0_; have BK113 := n1_; have GW113 := n2_; have GE113 := n3_; clear n0_ n1_ n2_ n3_; clear hb hbox hg; have hcz5_0 : w4.cell? ⟨gb113, 0, none⟩ = some (.int .i64 a0_0) := (blk_cell BK113.out 0).trans rfl; have hcz5_1 : w4.cell? ⟨gb113, 1, none⟩ = some (.slice A0_1 l0_1.length c0_1) := (blk_cell BK113.out 1).trans rfl; have hfz5_0 := blk_frozen BK113.out 0; have hfz5_1 := blk_frozen BK113.out 1) | ((with_reducible refine gate_callee (f := 65) rfl ?_); refine goesL_ (some 10) rfl rfl Try.func65 (by kernel_rfl) rfl #[.int .i64 a1, .int .i64 0, .int .i64 (wrap64 ((l0_1.length : Int) + 1))] rfl (by (try simp only [List.map_toArray, List.map_cons, List.map_nil]); first | done | rfl | (simp only [List.length_drop, List.length_take]; rfl)) ?_; (with_reducible refine (spec_l1In.calls a1 0 (wrap64 ((l0_1.length : Int) + 1)) t114 _ A3.out).mono ?_); rintro e w' ⟨rfl, ⟨nd, rfl⟩⟩; refine ⟨_, rfl, ?_⟩))
 go_ret
 exact ⟨by first | rfl | (simp [errW_none, errW_some] <;> rfl) | (simp [*, errW_none, errW_some] <;> rfl), by repeat (first | (with_reducible first | exact HB.out | apply bwA | apply bwN | apply bwD | refine below_set ?_ GE113.out) | exact HB.out)⟩

/-! ### spec_l8Var: function 99 -/
def spec_l8Var.f (a0_0 : Int) (l0_1 : List (S71)) (a1 : Int) : Option (Int) := if a1 < 2 then (some a0_0) else (if 0 ≤ (wrap64 (a1 - 2)) then (if (wrap64 (a1 - 2)) < (l0_1.length : Int) then (some ((rd_T71 l0_1 (wrap64 (a1 - 2))).f0)) else (none)) else (none))
set_option maxHeartbeats 8000000 in
set_option maxRecDepth 100000 in
theorem spec_l8Var.calls (a0_0 : Int) (A0_1 : Option Addr) (c0_1 : Nat) (l0_1 : List (S71)) (a1 : Int) (r : Int) (w : World) (hr0_1 : Kd.C k71 w A0_1 l0_1.length l0_1) (hc0_1 : l0_1.length ≤ c0_1) (h : spec_l8Var.f a0_0 l0_1 a1 = some r) :
  Calls Try.prog 99 #[.agg #[.int .i64 a0_0, .slice A0_1 l0_1.length c0_1], .int .i64 a1] w fun e w' => e = .returned (.int .i64 r) ∧ Below w.heap.size w w' := by
 have hu25 := Try.underlying25
 have HR0_1 := Aside0.mk hr0_1
 have HC0_1 := Aside0.mk hc0_1
 clear hr0_1 hc0_1
 have HB := Aside0.mk (Below.refl w.heap.size w)
 have H : (if a1 < 2 then (some a0_0) else (if 0 ≤ (wrap64 (a1 - 2)) then (if (wrap64 (a1 - 2)) < (l0_1.length : Int) then (some ((rd_T71 l0_1 (wrap64 (a1 - 2))).f0)) else (none)) else (none))) = some r := h
 clear h
 by_cases c3 : a1 < 2
 ·rw [if_pos c3] at H
  have c3b0 : decide (a1 < 2) = true := decide_eq_true c3
  clear c3
  obtain rfl := Option.some.inj H
  go_enter Try.func99, Try.ntmps99
  go_wp2_with (first | ((with_reducible refine gate_dst (N := 2) rfl ?_); refine box_event ?hg (N := 2) ?hd (cs := #[.int .i64 a0_0, .slice A0_1 l0_1.length c0_1]) (t := 25) ?hr ?_; (case hd => rfl); (case hg => rfl); (case hr => first | (go_simp; done) | (go_simp; rfl)); intro gb115 hg w4 hbox hb; have n0_ := Aside0.mk (below_step (by repeat (first | (with_reducible first | exact HB.out | apply bwA | apply bwN | apply bwD) | exact HB.out)) hb); have n1_ := Aside0.mk (hbox); have n2_ := Aside0.mk ((by rw [hg]; exact (below_size (by repeat (first | (with_reducible first | exact HB.out | apply bwA | apply bwN | apply bwD) | exact HB.out))) : w.heap.size ≤ gb115)); have n3_ := Aside0.mk ((by rw [hg]; exact (below_size (by repeat (first | (with_reducible first | exact HB.out | apply bwA | apply bwN | apply bwD) | exact HB.out))) : w.heap.size ≤ gb115)); clear HB; have HB := n0_; have BK115 := n1_; have GW115 := n2_; have GE115 := n3_; clear n0_ n1_ n2_ n3_; clear hb hbox hg; have hcz5_0 : w4.cell? ⟨gb115, 0, none⟩ = some (.int .i64 a0_0) := (blk_cell BK115.out 0).trans rfl; have hcz5_1 : w4.cell? ⟨gb115, 1, none⟩ = some (.slice A0_1 l0_1.length c0_1) := (blk_cell BK115.out 1).trans rfl; have hfz5_0 := blk_frozen BK115.out 0; have hfz5_1 := blk_frozen BK115.out 1))
  go_ret
  exact ⟨by first | rfl | (simp [errW_none, errW_some] <;> rfl) | (simp [*, errW_none, errW_some] <;> rfl), by repeat (first | (with_reducible first | exact HB.out | apply bwA | apply bwN | apply bwD | refine below_set ?_ GE115.out) | exact HB.out)⟩
 ·rw [if_neg c3] at H
  have c3b0 : decide (a1 < 2) = false := decide_eq_false c3
  clear c3
  obtain ⟨ji6, hji6⟩ : ∃ j_ : Int, (wrap64 (a1 - 2)) = j_ := ⟨_, rfl⟩
  replace H : (if 0 ≤ (ji6) then (if (ji6) < (l0_1.length : Int) then (some ((rd_T71 l0_1 (ji6)).f0)) else (none)) else (none)) = some r := by first | (rw [hji6] at H; exact H) | (simp only [hji6] at H ⊢; exact H)
  have hji6w : (IntKind.i64.wrap (a1 - 2)) = ji6 := (i64_w _).trans hji6
  by_cases c7 : 0 ≤ (ji6)
  ·rw [if_pos c7] at H
   have c7b0 : decide (0 ≤ (ji6)) = true := decide_eq_true c7
   clear c7
   by_cases c8 : (ji6) < (l0_1.length : Int)
   ·rw [if_pos c8] at H
    have c8b0 : decide ((ji6) < (l0_1.length : Int)) = true := decide_eq_true c8
    clear c8
    obtain rfl := Option.some.inj H
    go_enter Try.func99, Try.ntmps99
    go_wp2_with (first | ((with_reducible refine gate_dst (N := 2) rfl ?_); refine box_event ?hg (N := 2) ?hd (cs := #[.int .i64 a0_0, .slice A0_1 l0_1.length c0_1]) (t := 25) ?hr ?_; (case hd => rfl); (case hg => rfl); (case hr => first | (go_simp; done) | (go_simp; rfl)); intro gb115 hg w9 hbox hb; have n0_ := Aside0.mk (below_step (by repeat (first | (with_reducible first | exact HB.out | apply bwA | apply bwN | apply bwD) | exact HB.out)) hb); have n1_ := Aside0.mk (hbox); have n2_ := Aside0.mk ((by rw [hg]; exact (below_size (by repeat (first | (with_reducible first | exact HB.out | apply bwA | apply bwN | apply bwD) | exact HB.out))) : w.heap.size ≤ gb115)); have n3_ := Aside0.mk ((by rw [hg]; exact (below_size (by repeat (first | (with_reducible first | exact HB.out | apply bwA | apply bwN | apply bwD) | exact HB.out))) : w.heap.size ≤ gb115)); clear HB; have HB := n0_; have BK115 := n1_; have GW115 := n2_; have GE115 := n3_; clear n0_ n1_ n2_ n3_; clear hb hbox hg; have hcz10_0 : w9.cell? ⟨gb115, 0, none⟩ = some (.int .i64 a0_0) := (blk_cell BK115.out 0).trans rfl; have hcz10_1 : w9.cell? ⟨gb115, 1, none⟩ = some (.slice A0_1 l0_1.length c0_1) := (blk_cell BK115.out 1).trans rfl; have hfz10_0 := blk_frozen BK115.out 0; have hfz10_1 := blk_frozen BK115.out 1; have p116 : 0 ≤ ((ji6) : Int) := of_decide_eq_true (by first | (with_reducible assumption) | assumption); have q116 : (ji6) < (l0_1.length : Int) := of_decide_eq_true (by first | (with_reducible assumption) | assumption); obtain ⟨ad116, e116, hx116_0, hx116_1, hx116_2⟩ := at_T71 HR0_1.out (ji6) p116 q116; cases e116; replace hx116_0 := (HB.out.cell (World.block_lt_of_cell? w _ hx116_0)).trans hx116_0; replace hx116_1 := (HB.out.cell (World.block_lt_of_cell? w _ hx116_1)).trans hx116_1; replace hx116_2 := (HB.out.cell (World.block_lt_of_cell? w _ hx116_2)).trans hx116_2; replace p116 := eq_true p116; replace q116 := eq_true q116))
    go_ret
    exact ⟨by first | rfl | (simp [errW_none, errW_some] <;> rfl) | (simp only [← hji6]; first | rfl | (simp [errW_none, errW_some] <;> rfl)) | (simp [*, errW_none, errW_some] <;> rfl), by repeat (first | (with_reducible first | exact HB.out | apply bwA | apply bwN | apply bwD | refine below_set ?_ GE115.out) | exact HB.out)⟩
   ·rw [if_neg c8] at H
    exact absurd H (by simp)
  ·rw [if_neg c7] at H
   exact absurd H (by simp)

end Go.Proofs.Ytpcompnmadpljaa.QFnExactDiagramFix
