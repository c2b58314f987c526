-- Written by a program of this session (mk.py). Lean checks it.
import Derived.Test.YtpcompnmadpljaaQFnDiagramRowx0
import Derived.Test.YtpcompnmadpljaaQFnDiagramRowx2
import Derived.Test.YtpcompnmadpljaaQFnDiagramRowx3
namespace Go.Proofs.Ytpcompnmadpljaa.QFnDiagramRow
open Go.RowKit Go.Proofs.YtpcompnmadpljaaW.PrintWords Go.Proofs.YtpcompnmadpljaaW.PrintLast Go.Proofs.YtpcompnmadpljaaW.PrintMore
attribute [local go_sem] max2_int min2_int max_two min_two max_three min_three max_four min_four   -- for this text's walks alone
set_option linter.unusedVariables false
set_option linter.unusedSimpArgs false

/-! ### impl_forking_fix: function 63 -/
theorem keyInt : Mp.Key Try.prog 3 (Value.int .i64) KeyI where
 law := Maps.int_keyed Try.underlying3
 reads := fun x hx => by
  have hu := Try.underlying3
  exact ⟨.int .i64 x, by simp [keyOf, mapKey, hu, hx.wf]⟩
 inj := fun x y _ _ h => by
  simp at h
  exact h
def impl_forking_fix.two (rec : FS → Int → (Int → Option Int) → Option (FS × (Int → Option Int) × Int)) (s : FS) (n : Int) (x : S71) (m : Int → Option Int) : Option (FS × (Int → Option Int) × Int) :=
 (rec s x.f1 m).bind fun p1 => (rec p1.1 x.f2 p1.2.1).bind fun p2 =>
 if p2.1.full = true then some (p2.1, p2.2.1, 0) else (impl_forking_fork.f p2.1 x.f0 p1.2.2 p2.2.2).bind fun p3 => some (p3.1, (fun y => if y = n then some p3.2 else p2.2.1 y), p3.2)
def impl_forking_fix.f : Nat → FS → Int → Int → Int → (Int → Option Int) → Option (FS × (Int → Option Int) × Int)
 | 0, _, _, _, _, _ => none
 | k + 1, s, n, v, value, m =>
  (impl_Diagram_varAt.f s.vars s.forks n).bind fun t => if t > v then some (s, m, n)
  else if t = v then (impl_forking_goes.f s n v value).bind fun r => some (s, m, r)
  else if KeyI n then
   match m n with
   | some r => some (s, m, r)
   | none => if 0 ≤ wrap64 (n - 2) then if wrap64 (n - 2) < (s.forks.length : Int) then impl_forking_fix.two (fun s2 n2 m2 => impl_forking_fix.f k s2 n2 v value m2) s n (rd_T71 s.forks (wrap64 (n - 2))) m else none else none
  else none
theorem impl_forking_fix.two_le {f1 f2 : FS → Int → (Int → Option Int) → Option (FS × (Int → Option Int) × Int)} (h : ∀ s n m, LeO (f1 s n m) (f2 s n m)) (s : FS) (n : Int) (x : S71) (m : Int → Option Int) : LeO (impl_forking_fix.two f1 s n x m) (impl_forking_fix.two f2 s n x m) :=
 LeO.bind (h _ _ _) (fun _ => LeO.bind (h _ _ _) (fun _ => LeO.refl _))
theorem impl_forking_fix.le : ∀ (k : Nat) (s : FS) (n v value : Int) (m : Int → Option Int), LeO (impl_forking_fix.f k s n v value m) (impl_forking_fix.f (k + 1) s n v value m)
 | 0 => fun _ _ _ _ _ r h => by simp [impl_forking_fix.f] at h
 | k + 1 => fun s n v value m => by
  have ih := impl_forking_fix.le k
  rw [impl_forking_fix.f, impl_forking_fix.f]
  refine LeO.bind (LeO.refl _) (fun t => LeO.ite (LeO.refl _) (LeO.ite (LeO.refl _) (LeO.ite ?_ (LeO.refl _))))
  cases m n with
  | some r => exact LeO.refl _
  | none => exact LeO.ite (LeO.ite (impl_forking_fix.two_le (fun s2 n2 m2 => ih s2 n2 v value m2) _ _ _ _) (LeO.refl _)) (LeO.refl _)
theorem impl_forking_fix.mono : ∀ s n v value m k, LeO (impl_forking_fix.f k s n v value m) (impl_forking_fix.f (k + 1) s n v value m) := fun s n v value m k => impl_forking_fix.le k s n v value m
set_option maxHeartbeats 16000000 in
set_option maxRecDepth 100000 in
theorem impl_forking_fix.calls : ∀ (k : Nat) (s s' : FS) (n v value r : Int) (m m' : Int → Option Int) (mb : Nat) (ok : Nat → Prop) (g : Nat) (w0 w : World) (_ : Below w0.heap.size w0 w) (_ : IsF w w0.heap.size ok g s) (_ : Mp.Is (Value.int .i64) KeyI (Value.int .i64) w mb m) (_ : w0.heap.size ≤ mb ∧ ¬ ok mb) (_ : ∀ k, w.heap.size ≤ k → ok k) (_ : impl_forking_fix.f k s n v value m = some (s', m', r)),
  Calls Try.prog 63 #[.pointer (some ⟨g, 0, none⟩), .int .i64 n, .int .i64 v, .int .i64 value, .map (some mb)] w fun e w' => e = .returned (.int .i64 r) ∧ IsF w' w0.heap.size ok g s' ∧ Mp.Is (Value.int .i64) KeyI (Value.int .i64) w' mb m' ∧ Below w0.heap.size w0 w' ∧ Kept w w' (fun k_ => ok k_ ∨ k_ = mb)
 | 0 => fun _ _ _ _ _ _ _ _ _ _ _ _ _ _ _ _ _ _ h => by simp [impl_forking_fix.f] at h
 | k + 1 => fun s s' n v value r m m' mb ok g w0 w hB hI hM hmb hf h => by
  have ih := Aside0.mk (impl_forking_fix.calls k)
  have hu25 := Try.underlying25
  have hu71 := Try.underlying71
  have hu113 := Try.underlying113
  have HI := Aside0.mk hI
  have HB := Aside0.mk hB
  have HF := Aside0.mk hf
  have HM := Aside0.mk hM
  have MB := Aside0.mk hmb
  simp only [impl_forking_fix.f] at h
  obtain ⟨t, hva, h2⟩ := Option.bind_eq_some_iff.mp h
  have HVA := Aside0.mk hva
  obtain ⟨u, b1, b2, hg, hR, _, _, _, k1, _, _, k4, _, _⟩ := hI
  obtain ⟨A, c, rfl⟩ := Kd.R_slice hR
  have BG := Aside0.mk hg
  have HC := Aside0.mk (Kd.R_reads' hR).2.1
  have HR := Aside0.mk (Kd.R_reads' hR).2.2
  have hg0 : w.cell? ⟨g, 0, none⟩ = some (.int .i64 s.vars) := (blk_cell hg 0).trans rfl
  have hg1 : w.cell? ⟨g, 1, none⟩ = some (.slice A s.forks.length c) := (blk_cell hg 1).trans rfl
  clear hB hM hmb hf h hva hg hR k1 k4
  have h := h2
  clear h2
  by_cases c1 : t > v
  ·rw [if_pos c1] at h
   simp only [Option.some.injEq, Prod.mk.injEq] at h
   obtain ⟨rfl, rfl, rfl⟩ := h
   have e1 : decide (v < t) = true := decide_eq_true c1
   clear c1
   go_enter Try.func63, Try.ntmps63
   go_wp2_with (first | (go_at_call 54; (with_reducible refine (impl_Diagram_varAt.calls s.vars A c s.forks n t _ HR.out HC.out HVA.out).mono ?_); rintro e w5 ⟨rfl, hb⟩; have HB5 := Aside0.mk (hb); have BG5 := Aside0.mk (blk_below BG.out hb); have g50 : w5.cell? ⟨g, 0, none⟩ = some (.int .i64 s.vars) := (blk_cell BG5.out 0).trans rfl; have g51 : w5.cell? ⟨g, 1, none⟩ = some (.slice A s.forks.length c) := (blk_cell BG5.out 1).trans rfl; clear hb))
   go_ret
   exact ⟨rfl, HI.out.below HB5.out, HM.out.below HB5.out, below_then HB.out HB.out.size HB5.out, Kept.of_below HB5.out _⟩
  rw [if_neg c1] at h
  have e1 : decide (v < t) = false := decide_eq_false c1
  clear c1
  by_cases c2 : t = v
  ·rw [if_pos c2] at h
   obtain ⟨q, hq, h2⟩ := Option.bind_eq_some_iff.mp h
   simp only [Option.some.injEq, Prod.mk.injEq] at h2
   obtain ⟨rfl, rfl, rfl⟩ := h2
   have HQ := Aside0.mk hq
   have e2 : (t == v) = true := beq_iff_eq.mpr c2
   clear c2 h hq
   go_enter Try.func63, Try.ntmps63
   go_wp2_with (first | (go_at_call 54; (with_reducible refine (impl_Diagram_varAt.calls s.vars A c s.forks n t _ HR.out HC.out HVA.out).mono ?_); rintro e w5 ⟨rfl, hb⟩; have HB5 := Aside0.mk (hb); have BG5 := Aside0.mk (blk_below BG.out hb); have g50 : w5.cell? ⟨g, 0, none⟩ = some (.int .i64 s.vars) := (blk_cell BG5.out 0).trans rfl; have g51 : w5.cell? ⟨g, 1, none⟩ = some (.slice A s.forks.length c) := (blk_cell BG5.out 1).trans rfl; clear hb) | (go_at_call 54; (with_reducible refine (impl_Diagram_varAt.calls s.vars A c s.forks n t _ (Kd.C_below HR.out HB5.out) HC.out HVA.out).mono ?_); rintro e w6 ⟨rfl, hb⟩; have HB6 := Aside0.mk (below_step HB5.out hb); have BG6 := Aside0.mk (blk_below BG5.out hb); have g60 : w6.cell? ⟨g, 0, none⟩ = some (.int .i64 s.vars) := (blk_cell BG6.out 0).trans rfl; have g61 : w6.cell? ⟨g, 1, none⟩ = some (.slice A s.forks.length c) := (blk_cell BG6.out 1).trans rfl; clear hb) | (go_at_call 100; have hi_ := HI.out.below HB6.out; (with_reducible refine (impl_forking_goes.calls s n v value q w0.heap.size _ g _ hi_ HQ.out).mono ?_); rintro e w7 ⟨rfl, hb⟩; have HB7 := Aside0.mk (below_step HB6.out hb); clear hb hi_))
   go_ret
   exact ⟨rfl, HI.out.below HB7.out, HM.out.below HB7.out, below_then HB.out HB.out.size HB7.out, Kept.of_below HB7.out _⟩
  rw [if_neg c2] at h
  have e2 : (t == v) = false := beq_eq_false_iff_ne.mpr c2
  clear c2
  by_cases c3 : KeyI n
  ·rw [if_pos c3] at h
   have C3 := Aside0.mk c3
   clear c3
   cases hs : m n with
   | some q =>
    rw [hs] at h
    simp only [Option.some.injEq, Prod.mk.injEq] at h
    obtain ⟨rfl, rfl, rfl⟩ := h
    go_enter Try.func63, Try.ntmps63
    go_wp2_with (first | (go_at_call 54; (with_reducible refine (impl_Diagram_varAt.calls s.vars A c s.forks n t _ HR.out HC.out HVA.out).mono ?_); rintro e w5 ⟨rfl, hb⟩; have HB5 := Aside0.mk (hb); have BG5 := Aside0.mk (blk_below BG.out hb); have g50 : w5.cell? ⟨g, 0, none⟩ = some (.int .i64 s.vars) := (blk_cell BG5.out 0).trans rfl; have g51 : w5.cell? ⟨g, 1, none⟩ = some (.slice A s.forks.length c) := (blk_cell BG5.out 1).trans rfl; clear hb) | (go_at_call 54; (with_reducible refine (impl_Diagram_varAt.calls s.vars A c s.forks n t _ (Kd.C_below HR.out HB5.out) HC.out HVA.out).mono ?_); rintro e w6 ⟨rfl, hb⟩; have HB6 := Aside0.mk (below_step HB5.out hb); have BG6 := Aside0.mk (blk_below BG5.out hb); have g60 : w6.cell? ⟨g, 0, none⟩ = some (.int .i64 s.vars) := (blk_cell BG6.out 0).trans rfl; have g61 : w6.cell? ⟨g, 1, none⟩ = some (.slice A s.forks.length c) := (blk_cell BG6.out 1).trans rfl; clear hb) | ((with_reducible refine gate_ (op := .lookup 83 (.tmp 39) (.tmp 40) true) rfl ?_); refine Mp.look_some rfl (.tmp 39) (.tmp 40) rfl rfl (HM.out.below HB6.out) keyInt Try.underlying83 zero_int n rfl C3.out hs ?_))
    go_ret
    exact ⟨rfl, HI.out.below HB6.out, HM.out.below HB6.out, below_then HB.out HB.out.size HB6.out, Kept.of_below HB6.out _⟩
   | none =>
    rw [hs] at h
    simp only at h
    obtain ⟨j, hj⟩ : ∃ j, wrap64 (n - 2) = j := ⟨_, rfl⟩
    have hjw : (IntKind.i64.wrap (n - 2)) = j := (i64_w _).trans hj
    rw [hj] at h
    by_cases c4 : 0 ≤ j
    ·rw [if_pos c4] at h
     by_cases c5 : j < (s.forks.length : Int)
     ·rw [if_pos c5] at h
      obtain ⟨ad, rfl, hx0, hx1, hx2⟩ := at_T71 HR.out j c4 c5
      have c4b : decide (0 ≤ j) = true := decide_eq_true c4
      have c5b : decide (j < (s.forks.length : Int)) = true := decide_eq_true c5
      have X := Aside0.mk (And.intro hx0 (And.intro hx1 hx2))
      clear hx0 hx1 hx2 hj
      generalize rd_T71 s.forks j = x at h X
      simp only [impl_forking_fix.two] at h
      obtain ⟨⟨s1, m1, lo⟩, hp1, h3⟩ := Option.bind_eq_some_iff.mp h
      obtain ⟨⟨s2, m2, hi⟩, hp2, h4⟩ := Option.bind_eq_some_iff.mp h3
      simp only at hp2 h4
      have P1 := Aside0.mk hp1
      have P2 := Aside0.mk hp2
      have H4 := Aside0.mk h4
      clear h h3 h4 hp1 hp2
      cases hfl : s2.full with
      | true =>
       have h5 := H4.out
       rw [hfl, if_pos rfl] at h5
       simp only [Option.some.injEq, Prod.mk.injEq] at h5
       obtain ⟨rfl, rfl, rfl⟩ := h5
       clear H4
       go_enter Try.func63, Try.ntmps63
       go_upto_region 9 with (first | (go_at_call 54; (with_reducible refine (impl_Diagram_varAt.calls s.vars _ c s.forks n t _ HR.out HC.out HVA.out).mono ?_); rintro e w5 ⟨rfl, hb⟩; have HB5 := Aside0.mk (hb); have BG5 := Aside0.mk (blk_below BG.out hb); have g50 : w5.cell? ⟨g, 0, none⟩ = some (.int .i64 s.vars) := (blk_cell BG5.out 0).trans rfl; have g51 : w5.cell? ⟨g, 1, none⟩ = some (.slice (some ad) s.forks.length c) := (blk_cell BG5.out 1).trans rfl; clear hb) | (go_at_call 54; (with_reducible refine (impl_Diagram_varAt.calls s.vars _ c s.forks n t _ (Kd.C_below HR.out HB5.out) HC.out HVA.out).mono ?_); rintro e w6 ⟨rfl, hb⟩; have HB6 := Aside0.mk (below_step HB5.out hb); have BG6 := Aside0.mk (blk_below BG5.out hb); have g60 : w6.cell? ⟨g, 0, none⟩ = some (.int .i64 s.vars) := (blk_cell BG6.out 0).trans rfl; have g61 : w6.cell? ⟨g, 1, none⟩ = some (.slice (some ad) s.forks.length c) := (blk_cell BG6.out 1).trans rfl; have x60 := (HB6.out.cell (World.block_lt_of_cell? w _ X.out.1)).trans X.out.1; have x61 := (HB6.out.cell (World.block_lt_of_cell? w _ X.out.2.1)).trans X.out.2.1; have x62 := (HB6.out.cell (World.block_lt_of_cell? w _ X.out.2.2)).trans X.out.2.2; clear hb) | ((with_reducible refine gate_ (op := .lookup 83 (.tmp 39) (.tmp 40) true) rfl ?_); refine Mp.look_none rfl (.tmp 39) (.tmp 40) rfl rfl (HM.out.below HB6.out) keyInt Try.underlying83 zero_int n rfl C3.out hs ?_) | ((with_reducible refine gate_dst (N := 13) rfl ?_); refine box_event ?hg (N := 13) ?hd (cs := #[.int .i64 0, .int .i64 0, .int .i64 0]) (t := 71) ?hr ?_; (case hd => rfl); (case hg => rfl); (case hr => first | (go_simp; done) | (go_simp; rfl)); intro gb hgb w7 hbox hb; have BX0 := Aside0.mk hbox; have HB7 := Aside0.mk (below_step HB6.out hb); have hz0 : w7.cell? ⟨gb, 0, none⟩ = some (.int .i64 0) := (blk_cell BX0.out 0).trans rfl; have hz1 : w7.cell? ⟨gb, 1, none⟩ = some (.int .i64 0) := (blk_cell BX0.out 1).trans rfl; have hz2 : w7.cell? ⟨gb, 2, none⟩ = some (.int .i64 0) := (blk_cell BX0.out 2).trans rfl; have hy0 := blk_frozen BX0.out 0; have hy1 := blk_frozen BX0.out 1; have hy2 := blk_frozen BX0.out 2; have HGB := Aside0.mk (show w.heap.size ≤ gb by rw [hgb]; exact HB6.out.size); clear hgb hbox hb))
       have n0_ := Aside0.mk (below_set (below_set (below_set HB7.out HGB.out (j := 0) (v := .int .i64 x.f0)) HGB.out (j := 1) (v := .int .i64 x.f1)) HGB.out (j := 2) (v := .int .i64 x.f2))
       have BX8 := Aside0.mk (blk_put (blk_put (blk_put BX0.out 0 (.int .i64 x.f0) rfl) 1 (.int .i64 x.f1) rfl) 2 (.int .i64 x.f2) rfl)
       generalize (((w7.setCell ⟨gb, 0, none⟩ (.int .i64 x.f0)).setCell ⟨gb, 1, none⟩ (.int .i64 x.f1)).setCell ⟨gb, 2, none⟩ (.int .i64 x.f2)) = w8 at n0_ BX8 ⊢
       have LB8 := blk_lt BX8.out
       have I8 : Aside0 (IsF w8 w0.heap.size (fun k_ => ok k_ ∧ k_ ≠ gb) g s) := ⟨IsF.mono ((HI.out.bound).step (fun k_ hk_ _ => n0_.out.block k_ hk_.2.2)) (fun k_ hk_ => ⟨hk_.1, fun e_ => by have := HGB.out; have := hk_.2.2; omega⟩)⟩
       have M8 := Aside0.mk (HM.out.below n0_.out)
       have MB8 : Aside0 (w0.heap.size ≤ mb ∧ ¬ (ok mb ∧ mb ≠ gb)) := ⟨MB.out.1, fun h_ => MB.out.2 h_.1⟩
       have BL8 := Aside0.mk (below_then HB.out HB.out.size n0_.out)
       have HF8 : Aside0 (∀ k_, w8.heap.size ≤ k_ → ok k_ ∧ k_ ≠ gb) := ⟨fun k_ h_ => ⟨HF.out k_ (Nat.le_trans n0_.out.size h_), fun e_ => by omega⟩⟩
       have K8 := Aside0.mk (Kept.of_below n0_.out (fun k_ => ok k_ ∨ k_ = mb))
       have NB8 : Aside0 (¬ ((ok gb ∧ gb ≠ gb) ∨ gb = mb)) := ⟨fun h_ => h_.elim (fun h_ => h_.2 rfl) (fun e_ => by have := HM.out.lt; have := HGB.out; omega)⟩
       have x81 : w8.cell? ⟨gb, 1, none⟩ = some (.int .i64 x.f1) := (blk_cell BX8.out 1).trans rfl
       clear n0_ LB8 hz0 hz1 hz2 hy0 hy1 hy2 BX0 HB7 x60 x61 x62 HB6 BG6 g60 g61 HB5 BG5 g50 g51
       go_wp2_with (first | (go_at_call 63; (with_reducible refine (ih.out s s1 x.f1 v value lo m m1 mb _ g w0 _ BL8.out I8.out M8.out MB8.out HF8.out P1.out).mono ?_); rintro e w9 ⟨rfl, hi_, hm_, hb_, hk_⟩; have I9 := Aside0.mk hi_; have M9 := Aside0.mk hm_; have BL9 := Aside0.mk hb_; have BX9 := Aside0.mk (blk_kept BX8.out hk_ NB8.out); have K9 := Aside0.mk (K8.out.then_ hk_ (fun _ h_ => .inl (h_.imp And.left id))); have HF9 : Aside0 (∀ k_, w9.heap.size ≤ k_ → ok k_ ∧ k_ ≠ gb) := ⟨fun k_ h_ => HF8.out k_ (Nat.le_trans hk_.1 h_)⟩; have x92 : w9.cell? ⟨gb, 2, none⟩ = some (.int .i64 x.f2) := (blk_cell BX9.out 2).trans rfl; clear hi_ hm_ hb_ hk_) | (go_at_call 63; (with_reducible refine (ih.out s1 s2 x.f2 v value hi m1 m2 mb _ g w0 _ BL9.out I9.out M9.out MB8.out HF9.out P2.out).mono ?_); rintro e w10 ⟨rfl, hi_, hm_, hb_, hk_⟩; have I10 := Aside0.mk hi_; have M10 := Aside0.mk hm_; have BL10 := Aside0.mk hb_; have BX10 := Aside0.mk (blk_kept BX9.out hk_ NB8.out); have K10 := Aside0.mk (K9.out.then_ hk_ (fun _ h_ => .inl (h_.imp And.left id))); have HF10 : Aside0 (∀ k_, w10.heap.size ≤ k_ → ok k_ ∧ k_ ≠ gb) := ⟨fun k_ h_ => HF9.out k_ (Nat.le_trans hk_.1 h_)⟩; have x100 : w10.cell? ⟨gb, 0, none⟩ = some (.int .i64 x.f0) := (blk_cell BX10.out 0).trans rfl; obtain ⟨u10, b10, c10, hg10, _⟩ := hi_; have g103 : w10.cell? ⟨g, 3, none⟩ = some (.bool s2.full) := (blk_cell hg10 3).trans rfl; rw [hfl] at g103; clear hg10 hm_ hb_ hk_))
       go_ret
       exact ⟨rfl, I10.out.mono (fun _ h_ => h_.1), M10.out, BL10.out, K10.out⟩
      | false =>
       have h5 := H4.out
       rw [hfl, if_neg (by decide)] at h5
       obtain ⟨⟨s3, nn⟩, hp3, h6⟩ := Option.bind_eq_some_iff.mp h5
       simp only [Option.some.injEq, Prod.mk.injEq] at h6
       obtain ⟨rfl, rfl, rfl⟩ := h6
       have P3 := Aside0.mk hp3
       clear H4 h5 hp3
       go_enter Try.func63, Try.ntmps63
       go_upto_region 9 with (first | (go_at_call 54; (with_reducible refine (impl_Diagram_varAt.calls s.vars _ c s.forks n t _ HR.out HC.out HVA.out).mono ?_); rintro e w5 ⟨rfl, hb⟩; have HB5 := Aside0.mk (hb); have BG5 := Aside0.mk (blk_below BG.out hb); have g50 : w5.cell? ⟨g, 0, none⟩ = some (.int .i64 s.vars) := (blk_cell BG5.out 0).trans rfl; have g51 : w5.cell? ⟨g, 1, none⟩ = some (.slice (some ad) s.forks.length c) := (blk_cell BG5.out 1).trans rfl; clear hb) | (go_at_call 54; (with_reducible refine (impl_Diagram_varAt.calls s.vars _ c s.forks n t _ (Kd.C_below HR.out HB5.out) HC.out HVA.out).mono ?_); rintro e w6 ⟨rfl, hb⟩; have HB6 := Aside0.mk (below_step HB5.out hb); have BG6 := Aside0.mk (blk_below BG5.out hb); have g60 : w6.cell? ⟨g, 0, none⟩ = some (.int .i64 s.vars) := (blk_cell BG6.out 0).trans rfl; have g61 : w6.cell? ⟨g, 1, none⟩ = some (.slice (some ad) s.forks.length c) := (blk_cell BG6.out 1).trans rfl; have x60 := (HB6.out.cell (World.block_lt_of_cell? w _ X.out.1)).trans X.out.1; have x61 := (HB6.out.cell (World.block_lt_of_cell? w _ X.out.2.1)).trans X.out.2.1; have x62 := (HB6.out.cell (World.block_lt_of_cell? w _ X.out.2.2)).trans X.out.2.2; clear hb) | ((with_reducible refine gate_ (op := .lookup 83 (.tmp 39) (.tmp 40) true) rfl ?_); refine Mp.look_none rfl (.tmp 39) (.tmp 40) rfl rfl (HM.out.below HB6.out) keyInt Try.underlying83 zero_int n rfl C3.out hs ?_) | ((with_reducible refine gate_dst (N := 13) rfl ?_); refine box_event ?hg (N := 13) ?hd (cs := #[.int .i64 0, .int .i64 0, .int .i64 0]) (t := 71) ?hr ?_; (case hd => rfl); (case hg => rfl); (case hr => first | (go_simp; done) | (go_simp; rfl)); intro gb hgb w7 hbox hb; have BX0 := Aside0.mk hbox; have HB7 := Aside0.mk (below_step HB6.out hb); have hz0 : w7.cell? ⟨gb, 0, none⟩ = some (.int .i64 0) := (blk_cell BX0.out 0).trans rfl; have hz1 : w7.cell? ⟨gb, 1, none⟩ = some (.int .i64 0) := (blk_cell BX0.out 1).trans rfl; have hz2 : w7.cell? ⟨gb, 2, none⟩ = some (.int .i64 0) := (blk_cell BX0.out 2).trans rfl; have hy0 := blk_frozen BX0.out 0; have hy1 := blk_frozen BX0.out 1; have hy2 := blk_frozen BX0.out 2; have HGB := Aside0.mk (show w.heap.size ≤ gb by rw [hgb]; exact HB6.out.size); clear hgb hbox hb))
       have n0_ := Aside0.mk (below_set (below_set (below_set HB7.out HGB.out (j := 0) (v := .int .i64 x.f0)) HGB.out (j := 1) (v := .int .i64 x.f1)) HGB.out (j := 2) (v := .int .i64 x.f2))
       have BX8 := Aside0.mk (blk_put (blk_put (blk_put BX0.out 0 (.int .i64 x.f0) rfl) 1 (.int .i64 x.f1) rfl) 2 (.int .i64 x.f2) rfl)
       generalize (((w7.setCell ⟨gb, 0, none⟩ (.int .i64 x.f0)).setCell ⟨gb, 1, none⟩ (.int .i64 x.f1)).setCell ⟨gb, 2, none⟩ (.int .i64 x.f2)) = w8 at n0_ BX8 ⊢
       have LB8 := blk_lt BX8.out
       have I8 : Aside0 (IsF w8 w0.heap.size (fun k_ => ok k_ ∧ k_ ≠ gb) g s) := ⟨IsF.mono ((HI.out.bound).step (fun k_ hk_ _ => n0_.out.block k_ hk_.2.2)) (fun k_ hk_ => ⟨hk_.1, fun e_ => by have := HGB.out; have := hk_.2.2; omega⟩)⟩
       have M8 := Aside0.mk (HM.out.below n0_.out)
       have MB8 : Aside0 (w0.heap.size ≤ mb ∧ ¬ (ok mb ∧ mb ≠ gb)) := ⟨MB.out.1, fun h_ => MB.out.2 h_.1⟩
       have BL8 := Aside0.mk (below_then HB.out HB.out.size n0_.out)
       have HF8 : Aside0 (∀ k_, w8.heap.size ≤ k_ → ok k_ ∧ k_ ≠ gb) := ⟨fun k_ h_ => ⟨HF.out k_ (Nat.le_trans n0_.out.size h_), fun e_ => by omega⟩⟩
       have K8 := Aside0.mk (Kept.of_below n0_.out (fun k_ => ok k_ ∨ k_ = mb))
       have NB8 : Aside0 (¬ ((ok gb ∧ gb ≠ gb) ∨ gb = mb)) := ⟨fun h_ => h_.elim (fun h_ => h_.2 rfl) (fun e_ => by have := HM.out.lt; have := HGB.out; omega)⟩
       have x81 : w8.cell? ⟨gb, 1, none⟩ = some (.int .i64 x.f1) := (blk_cell BX8.out 1).trans rfl
       clear n0_ LB8 hz0 hz1 hz2 hy0 hy1 hy2 BX0 HB7 x60 x61 x62 HB6 BG6 g60 g61 HB5 BG5 g50 g51
       go_wp2_with (first | (go_at_call 63; (with_reducible refine (ih.out s s1 x.f1 v value lo m m1 mb _ g w0 _ BL8.out I8.out M8.out MB8.out HF8.out P1.out).mono ?_); rintro e w9 ⟨rfl, hi_, hm_, hb_, hk_⟩; have I9 := Aside0.mk hi_; have M9 := Aside0.mk hm_; have BL9 := Aside0.mk hb_; have BX9 := Aside0.mk (blk_kept BX8.out hk_ NB8.out); have K9 := Aside0.mk (K8.out.then_ hk_ (fun _ h_ => .inl (h_.imp And.left id))); have HF9 : Aside0 (∀ k_, w9.heap.size ≤ k_ → ok k_ ∧ k_ ≠ gb) := ⟨fun k_ h_ => HF8.out k_ (Nat.le_trans hk_.1 h_)⟩; have x92 : w9.cell? ⟨gb, 2, none⟩ = some (.int .i64 x.f2) := (blk_cell BX9.out 2).trans rfl; clear hi_ hm_ hb_ hk_) | (go_at_call 63; (with_reducible refine (ih.out s1 s2 x.f2 v value hi m1 m2 mb _ g w0 _ BL9.out I9.out M9.out MB8.out HF9.out P2.out).mono ?_); rintro e w10 ⟨rfl, hi_, hm_, hb_, hk_⟩; have I10 := Aside0.mk hi_; have M10 := Aside0.mk hm_; have BL10 := Aside0.mk hb_; have BX10 := Aside0.mk (blk_kept BX9.out hk_ NB8.out); have K10 := Aside0.mk (K9.out.then_ hk_ (fun _ h_ => .inl (h_.imp And.left id))); have HF10 : Aside0 (∀ k_, w10.heap.size ≤ k_ → ok k_ ∧ k_ ≠ gb) := ⟨fun k_ h_ => HF9.out k_ (Nat.le_trans hk_.1 h_)⟩; have x100 : w10.cell? ⟨gb, 0, none⟩ = some (.int .i64 x.f0) := (blk_cell BX10.out 0).trans rfl; obtain ⟨u10, b10, c10, hg10, _⟩ := hi_; have g103 : w10.cell? ⟨g, 3, none⟩ = some (.bool s2.full) := (blk_cell hg10 3).trans rfl; rw [hfl] at g103; clear hg10 hm_ hb_ hk_) | (go_at_call 57; (with_reducible refine (impl_forking_fork.calls s2 s3 x.f0 lo hi nn _ g w0 _ BL10.out I10.out HF10.out P3.out).mono ?_); rintro e w11 ⟨rfl, hi_, hb_, hk_⟩; have I11 := Aside0.mk hi_; have BL11 := Aside0.mk hb_; have K11 := Aside0.mk (K10.out.then_ hk_ (fun _ h_ => .inl (.inl h_.1))); have M11 := Aside0.mk (M10.out.move (hk_.2 mb M10.out.lt MB8.out.2)); clear hi_ hb_ hk_) | ((with_reducible refine gate_ (op := .mapUpdate 83 (.tmp 73) (.tmp 74) (.tmp 80)) rfl ?_); refine Mp.store rfl (.tmp 73) (.tmp 74) (.tmp 80) rfl rfl M11.out keyInt Try.underlying83 n rfl C3.out nn rfl ?_; intro w12 hm_ hg_ hz_; have I12 := Aside0.mk (I11.out.step (fun k_ hk_ hlt_ => hg_.block k_ hlt_ (fun e_ => MB8.out.2 (by cases e_; exact hk_)))); have M12 := Aside0.mk hm_; have BL12 := Aside0.mk (BL11.out.grown hg_ BL11.out.size (fun k_ e_ => by cases e_; exact MB8.out.1)); have K12 := Aside0.mk (Kept.of_grown hg_ K11.out (fun k_ e_ => by cases e_; exact .inl (.inr rfl))); clear hm_ hg_ hz_) | ((with_reducible refine gate_ (op := .lookup 83 (.tmp 81) (.tmp 82) false) rfl ?_); refine Mp.at_some rfl (.tmp 81) (.tmp 82) rfl rfl M12.out keyInt Try.underlying83 zero_int n rfl C3.out (v := nn) (by simp) ?_))
       go_ret
       exact ⟨rfl, I12.out.mono (fun _ h_ => h_.1), M12.out, BL12.out, K12.out⟩
     ·rw [if_neg c5] at h
      cases h
    ·rw [if_neg c4] at h
     cases h
  ·rw [if_neg c3] at h
   cases h

/-! ### impl_DiagramFix: function 16 -/
def impl_DiagramFix.f (k : Nat) (a0_0 : Int) (l0_1 : List S71) (n : Int) (v : Int) (value : Int) : Option (Int × List S71 × Int) := (impl_DiagramValid.f a0_0 l0_1).bind fun t0 => if t0 = false then some (0, [], -1) else (impl_Diagram_isPlace.f a0_0 l0_1 n).bind fun t1 => if t1 = false then some (0, [], -1) else (impl_in.f v 0 (wrap64 (a0_0 - 1))).bind fun t2 => if t2 = false then some (0, [], -1) else (impl_in.f value 0 1).bind fun t3 => if t3 = false then some (0, [], -1) else (impl_forkingOf.f a0_0 l0_1).bind fun s => (impl_forking_fix.f k s n v value (fun _ => none)).bind fun p => impl_forking_done.f p.1 p.2.2
theorem impl_DiagramFix.mono : ∀ a0_0 l0_1 n v value k, LeO (impl_DiagramFix.f k a0_0 l0_1 n v value) (impl_DiagramFix.f (k + 1) a0_0 l0_1 n v value) := fun a0_0 l0_1 n v value k => LeO.bind (LeO.refl _) (fun _ => LeO.ite (LeO.refl _) (LeO.bind (LeO.refl _) (fun _ => LeO.ite (LeO.refl _) (LeO.bind (LeO.refl _) (fun _ => LeO.ite (LeO.refl _) (LeO.bind (LeO.refl _) (fun _ => LeO.ite (LeO.refl _) (LeO.bind (LeO.refl _) (fun _ => LeO.bind (impl_forking_fix.mono _ _ _ _ _ k) (fun _ => LeO.refl _))))))))))
set_option maxHeartbeats 8000000 in
set_option maxRecDepth 100000 in
theorem impl_DiagramFix.calls (k : Nat) (a0_0 : Int) (A0_1 : Option Addr) (c0_1 : Nat) (l0_1 : List S71) (n : Int) (v : Int) (value : Int) (r1 : Int) (r2 : List S71) (r3 : Int) (w : World) (hr : Kd.C k71 w A0_1 l0_1.length l0_1) (hc : l0_1.length ≤ c0_1) (h : impl_DiagramFix.f k a0_0 l0_1 n v value = some (r1, r2, r3)) :
  Calls Try.prog 16 #[.agg #[.int .i64 a0_0, .slice A0_1 l0_1.length c0_1], .int .i64 n, .int .i64 v, .int .i64 value] w fun e w' => ∃ v1_ : Value, e = .returned (.tuple #[.agg #[.int .i64 r1, v1_], .int .i64 r3]) ∧ Kd.R k71 71 w' w.heap.size (fun _ => True) v1_ r2 ∧ Below w.heap.size w w' := by
 have hu25 := Try.underlying25
 have HR := Aside0.mk hr
 have HC := Aside0.mk hc
 unfold impl_DiagramFix.f at h
 clear hr hc
 obtain ⟨t0, h0, h_⟩ := Option.bind_eq_some_iff.mp h
 clear h
 have h := h_
 have T0 := Aside0.mk h0
 clear h0 h_
 cases t0 with
 | false =>
  rw [if_pos rfl] at h
  simp only [Option.some.injEq, Prod.mk.injEq] at h
  obtain ⟨rfl, rfl, rfl⟩ := h
  go_enter Try.func16, Try.ntmps16
  go_wp2_with (first | ((with_reducible refine gate_dst (N := 4) rfl ?_); refine box_event ?hg (N := 4) ?hd (cs := #[.int .i64 a0_0, .slice A0_1 l0_1.length c0_1]) (t := 25) ?hr ?_; (case hd => rfl); (case hg => rfl); (case hr => first | (go_simp; done) | (go_simp; rfl)); intro g0 hg0 w1 hbox hb; have BD1 := Aside0.mk hbox; have HB1 := Aside0.mk hb; clear hg0 hbox hb) | ((with_reducible refine gate_dst (N := 8) rfl ?_); refine box_event ?hg (N := 8) ?hd (cs := #[.int .i64 0, .slice none 0 0]) (t := 25) ?hr ?_; (case hd => rfl); (case hg => rfl); (case hr => first | (go_simp; done) | (go_simp; rfl)); intro gr hgr w2 hbox hb; have GR := Aside0.mk (show w.heap.size ≤ gr by rw [hgr]; exact HB1.out.size); have BR2 := Aside0.mk hbox; have BD2 := Aside0.mk (blk_below BD1.out hb); have HB2 := Aside0.mk (below_step HB1.out hb); have d20 : w2.cell? ⟨g0, 0, none⟩ = some (.int .i64 a0_0) := (blk_cell BD2.out 0).trans rfl; have d21 : w2.cell? ⟨g0, 1, none⟩ = some (.slice A0_1 l0_1.length c0_1) := (blk_cell BD2.out 1).trans rfl; clear hgr hbox hb) | (go_at_call 17; (with_reducible refine (impl_DiagramValid.calls a0_0 A0_1 c0_1 l0_1 false _ (Kd.C_below HR.out HB2.out) HC.out T0.out).mono ?_); rintro e w3 ⟨rfl, hb⟩; have HB3 := Aside0.mk (below_step HB2.out hb); have BD3 := Aside0.mk (blk_below BD2.out hb); have BR3 := Aside0.mk (blk_below BR2.out hb); have d30 : w3.cell? ⟨g0, 0, none⟩ = some (.int .i64 a0_0) := (blk_cell BD3.out 0).trans rfl; have d31 : w3.cell? ⟨g0, 1, none⟩ = some (.slice A0_1 l0_1.length c0_1) := (blk_cell BD3.out 1).trans rfl; have r30 : w3.cell? ⟨gr, 0, none⟩ = some (.int .i64 0) := (blk_cell BR3.out 0).trans rfl; have r31 : w3.cell? ⟨gr, 1, none⟩ = some (.slice none 0 0) := (blk_cell BR3.out 1).trans rfl; have q30 := blk_frozen BR3.out 0; have q31 := blk_frozen BR3.out 1; clear hb))
  refine bodyPost_ret (results_ct rfl _ _ gr 25 #[.int .i64 0, .slice none 0 0] (0, 0) _ rfl (blk_put (blk_put BR3.out 0 _ rfl) 1 _ rfl) Try.underlying25 rfl (by kernel_rfl)) rfl ?_
  exact ⟨_, rfl, Kd.R_nil _ _ _ _ _, below_set (below_set HB3.out GR.out) GR.out⟩
 | true =>
  rw [if_neg (by decide)] at h
  obtain ⟨t1, h1, h_⟩ := Option.bind_eq_some_iff.mp h
  clear h
  have h := h_
  have T1 := Aside0.mk h1
  clear h1 h_
  cases t1 with
  | false =>
   rw [if_pos rfl] at h
   simp only [Option.some.injEq, Prod.mk.injEq] at h
   obtain ⟨rfl, rfl, rfl⟩ := h
   go_enter Try.func16, Try.ntmps16
   go_wp2_with (first | ((with_reducible refine gate_dst (N := 4) rfl ?_); refine box_event ?hg (N := 4) ?hd (cs := #[.int .i64 a0_0, .slice A0_1 l0_1.length c0_1]) (t := 25) ?hr ?_; (case hd => rfl); (case hg => rfl); (case hr => first | (go_simp; done) | (go_simp; rfl)); intro g0 hg0 w1 hbox hb; have BD1 := Aside0.mk hbox; have HB1 := Aside0.mk hb; clear hg0 hbox hb) | ((with_reducible refine gate_dst (N := 8) rfl ?_); refine box_event ?hg (N := 8) ?hd (cs := #[.int .i64 0, .slice none 0 0]) (t := 25) ?hr ?_; (case hd => rfl); (case hg => rfl); (case hr => first | (go_simp; done) | (go_simp; rfl)); intro gr hgr w2 hbox hb; have GR := Aside0.mk (show w.heap.size ≤ gr by rw [hgr]; exact HB1.out.size); have BR2 := Aside0.mk hbox; have BD2 := Aside0.mk (blk_below BD1.out hb); have HB2 := Aside0.mk (below_step HB1.out hb); have d20 : w2.cell? ⟨g0, 0, none⟩ = some (.int .i64 a0_0) := (blk_cell BD2.out 0).trans rfl; have d21 : w2.cell? ⟨g0, 1, none⟩ = some (.slice A0_1 l0_1.length c0_1) := (blk_cell BD2.out 1).trans rfl; clear hgr hbox hb) | (go_at_call 17; (with_reducible refine (impl_DiagramValid.calls a0_0 A0_1 c0_1 l0_1 true _ (Kd.C_below HR.out HB2.out) HC.out T0.out).mono ?_); rintro e w3 ⟨rfl, hb⟩; have HB3 := Aside0.mk (below_step HB2.out hb); have BD3 := Aside0.mk (blk_below BD2.out hb); have BR3 := Aside0.mk (blk_below BR2.out hb); have d30 : w3.cell? ⟨g0, 0, none⟩ = some (.int .i64 a0_0) := (blk_cell BD3.out 0).trans rfl; have d31 : w3.cell? ⟨g0, 1, none⟩ = some (.slice A0_1 l0_1.length c0_1) := (blk_cell BD3.out 1).trans rfl; have r30 : w3.cell? ⟨gr, 0, none⟩ = some (.int .i64 0) := (blk_cell BR3.out 0).trans rfl; have r31 : w3.cell? ⟨gr, 1, none⟩ = some (.slice none 0 0) := (blk_cell BR3.out 1).trans rfl; have q30 := blk_frozen BR3.out 0; have q31 := blk_frozen BR3.out 1; clear hb) | (go_at_call 53; (with_reducible refine (impl_Diagram_isPlace.calls a0_0 A0_1 c0_1 l0_1 n false _ (Kd.C_below HR.out HB3.out) HC.out T1.out).mono ?_); rintro e w4 ⟨rfl, hb⟩; have HB4 := Aside0.mk (below_step HB3.out hb); have BD4 := Aside0.mk (blk_below BD3.out hb); have BR4 := Aside0.mk (blk_below BR3.out hb); have d40 : w4.cell? ⟨g0, 0, none⟩ = some (.int .i64 a0_0) := (blk_cell BD4.out 0).trans rfl; have d41 : w4.cell? ⟨g0, 1, none⟩ = some (.slice A0_1 l0_1.length c0_1) := (blk_cell BD4.out 1).trans rfl; have r40 : w4.cell? ⟨gr, 0, none⟩ = some (.int .i64 0) := (blk_cell BR4.out 0).trans rfl; have r41 : w4.cell? ⟨gr, 1, none⟩ = some (.slice none 0 0) := (blk_cell BR4.out 1).trans rfl; have q40 := blk_frozen BR4.out 0; have q41 := blk_frozen BR4.out 1; clear hb))
   refine bodyPost_ret (results_ct rfl _ _ gr 25 #[.int .i64 0, .slice none 0 0] (0, 0) _ rfl (blk_put (blk_put BR4.out 0 _ rfl) 1 _ rfl) Try.underlying25 rfl (by kernel_rfl)) rfl ?_
   exact ⟨_, rfl, Kd.R_nil _ _ _ _ _, below_set (below_set HB4.out GR.out) GR.out⟩
  | true =>
   rw [if_neg (by decide)] at h
   obtain ⟨t2, h2, h_⟩ := Option.bind_eq_some_iff.mp h
   clear h
   have h := h_
   have T2 := Aside0.mk h2
   clear h2 h_
   cases t2 with
   | false =>
    rw [if_pos rfl] at h
    simp only [Option.some.injEq, Prod.mk.injEq] at h
    obtain ⟨rfl, rfl, rfl⟩ := h
    go_enter Try.func16, Try.ntmps16
    go_wp2_with (first | ((with_reducible refine gate_dst (N := 4) rfl ?_); refine box_event ?hg (N := 4) ?hd (cs := #[.int .i64 a0_0, .slice A0_1 l0_1.length c0_1]) (t := 25) ?hr ?_; (case hd => rfl); (case hg => rfl); (case hr => first | (go_simp; done) | (go_simp; rfl)); intro g0 hg0 w1 hbox hb; have BD1 := Aside0.mk hbox; have HB1 := Aside0.mk hb; clear hg0 hbox hb) | ((with_reducible refine gate_dst (N := 8) rfl ?_); refine box_event ?hg (N := 8) ?hd (cs := #[.int .i64 0, .slice none 0 0]) (t := 25) ?hr ?_; (case hd => rfl); (case hg => rfl); (case hr => first | (go_simp; done) | (go_simp; rfl)); intro gr hgr w2 hbox hb; have GR := Aside0.mk (show w.heap.size ≤ gr by rw [hgr]; exact HB1.out.size); have BR2 := Aside0.mk hbox; have BD2 := Aside0.mk (blk_below BD1.out hb); have HB2 := Aside0.mk (below_step HB1.out hb); have d20 : w2.cell? ⟨g0, 0, none⟩ = some (.int .i64 a0_0) := (blk_cell BD2.out 0).trans rfl; have d21 : w2.cell? ⟨g0, 1, none⟩ = some (.slice A0_1 l0_1.length c0_1) := (blk_cell BD2.out 1).trans rfl; clear hgr hbox hb) | (go_at_call 17; (with_reducible refine (impl_DiagramValid.calls a0_0 A0_1 c0_1 l0_1 true _ (Kd.C_below HR.out HB2.out) HC.out T0.out).mono ?_); rintro e w3 ⟨rfl, hb⟩; have HB3 := Aside0.mk (below_step HB2.out hb); have BD3 := Aside0.mk (blk_below BD2.out hb); have BR3 := Aside0.mk (blk_below BR2.out hb); have d30 : w3.cell? ⟨g0, 0, none⟩ = some (.int .i64 a0_0) := (blk_cell BD3.out 0).trans rfl; have d31 : w3.cell? ⟨g0, 1, none⟩ = some (.slice A0_1 l0_1.length c0_1) := (blk_cell BD3.out 1).trans rfl; have r30 : w3.cell? ⟨gr, 0, none⟩ = some (.int .i64 0) := (blk_cell BR3.out 0).trans rfl; have r31 : w3.cell? ⟨gr, 1, none⟩ = some (.slice none 0 0) := (blk_cell BR3.out 1).trans rfl; have q30 := blk_frozen BR3.out 0; have q31 := blk_frozen BR3.out 1; clear hb) | (go_at_call 53; (with_reducible refine (impl_Diagram_isPlace.calls a0_0 A0_1 c0_1 l0_1 n true _ (Kd.C_below HR.out HB3.out) HC.out T1.out).mono ?_); rintro e w4 ⟨rfl, hb⟩; have HB4 := Aside0.mk (below_step HB3.out hb); have BD4 := Aside0.mk (blk_below BD3.out hb); have BR4 := Aside0.mk (blk_below BR3.out hb); have d40 : w4.cell? ⟨g0, 0, none⟩ = some (.int .i64 a0_0) := (blk_cell BD4.out 0).trans rfl; have d41 : w4.cell? ⟨g0, 1, none⟩ = some (.slice A0_1 l0_1.length c0_1) := (blk_cell BD4.out 1).trans rfl; have r40 : w4.cell? ⟨gr, 0, none⟩ = some (.int .i64 0) := (blk_cell BR4.out 0).trans rfl; have r41 : w4.cell? ⟨gr, 1, none⟩ = some (.slice none 0 0) := (blk_cell BR4.out 1).trans rfl; have q40 := blk_frozen BR4.out 0; have q41 := blk_frozen BR4.out 1; clear hb) | (go_at_call 52; (with_reducible refine (impl_in.calls v 0 (wrap64 (a0_0 - 1)) false _ T2.out).mono ?_); rintro e w5 ⟨rfl, hb⟩; replace hb := hb.below; have HB5 := Aside0.mk (below_step HB4.out hb); have BD5 := Aside0.mk (blk_below BD4.out hb); have BR5 := Aside0.mk (blk_below BR4.out hb); have d50 : w5.cell? ⟨g0, 0, none⟩ = some (.int .i64 a0_0) := (blk_cell BD5.out 0).trans rfl; have d51 : w5.cell? ⟨g0, 1, none⟩ = some (.slice A0_1 l0_1.length c0_1) := (blk_cell BD5.out 1).trans rfl; have r50 : w5.cell? ⟨gr, 0, none⟩ = some (.int .i64 0) := (blk_cell BR5.out 0).trans rfl; have r51 : w5.cell? ⟨gr, 1, none⟩ = some (.slice none 0 0) := (blk_cell BR5.out 1).trans rfl; have q50 := blk_frozen BR5.out 0; have q51 := blk_frozen BR5.out 1; clear hb))
    refine bodyPost_ret (results_ct rfl _ _ gr 25 #[.int .i64 0, .slice none 0 0] (0, 0) _ rfl (blk_put (blk_put BR5.out 0 _ rfl) 1 _ rfl) Try.underlying25 rfl (by kernel_rfl)) rfl ?_
    exact ⟨_, rfl, Kd.R_nil _ _ _ _ _, below_set (below_set HB5.out GR.out) GR.out⟩
   | true =>
    rw [if_neg (by decide)] at h
    obtain ⟨t3, h3, h_⟩ := Option.bind_eq_some_iff.mp h
    clear h
    have h := h_
    have T3 := Aside0.mk h3
    clear h3 h_
    cases t3 with
    | false =>
     rw [if_pos rfl] at h
     simp only [Option.some.injEq, Prod.mk.injEq] at h
     obtain ⟨rfl, rfl, rfl⟩ := h
     go_enter Try.func16, Try.ntmps16
     go_wp2_with (first | ((with_reducible refine gate_dst (N := 4) rfl ?_); refine box_event ?hg (N := 4) ?hd (cs := #[.int .i64 a0_0, .slice A0_1 l0_1.length c0_1]) (t := 25) ?hr ?_; (case hd => rfl); (case hg => rfl); (case hr => first | (go_simp; done) | (go_simp; rfl)); intro g0 hg0 w1 hbox hb; have BD1 := Aside0.mk hbox; have HB1 := Aside0.mk hb; clear hg0 hbox hb) | ((with_reducible refine gate_dst (N := 8) rfl ?_); refine box_event ?hg (N := 8) ?hd (cs := #[.int .i64 0, .slice none 0 0]) (t := 25) ?hr ?_; (case hd => rfl); (case hg => rfl); (case hr => first | (go_simp; done) | (go_simp; rfl)); intro gr hgr w2 hbox hb; have GR := Aside0.mk (show w.heap.size ≤ gr by rw [hgr]; exact HB1.out.size); have BR2 := Aside0.mk hbox; have BD2 := Aside0.mk (blk_below BD1.out hb); have HB2 := Aside0.mk (below_step HB1.out hb); have d20 : w2.cell? ⟨g0, 0, none⟩ = some (.int .i64 a0_0) := (blk_cell BD2.out 0).trans rfl; have d21 : w2.cell? ⟨g0, 1, none⟩ = some (.slice A0_1 l0_1.length c0_1) := (blk_cell BD2.out 1).trans rfl; clear hgr hbox hb) | (go_at_call 17; (with_reducible refine (impl_DiagramValid.calls a0_0 A0_1 c0_1 l0_1 true _ (Kd.C_below HR.out HB2.out) HC.out T0.out).mono ?_); rintro e w3 ⟨rfl, hb⟩; have HB3 := Aside0.mk (below_step HB2.out hb); have BD3 := Aside0.mk (blk_below BD2.out hb); have BR3 := Aside0.mk (blk_below BR2.out hb); have d30 : w3.cell? ⟨g0, 0, none⟩ = some (.int .i64 a0_0) := (blk_cell BD3.out 0).trans rfl; have d31 : w3.cell? ⟨g0, 1, none⟩ = some (.slice A0_1 l0_1.length c0_1) := (blk_cell BD3.out 1).trans rfl; have r30 : w3.cell? ⟨gr, 0, none⟩ = some (.int .i64 0) := (blk_cell BR3.out 0).trans rfl; have r31 : w3.cell? ⟨gr, 1, none⟩ = some (.slice none 0 0) := (blk_cell BR3.out 1).trans rfl; have q30 := blk_frozen BR3.out 0; have q31 := blk_frozen BR3.out 1; clear hb) | (go_at_call 53; (with_reducible refine (impl_Diagram_isPlace.calls a0_0 A0_1 c0_1 l0_1 n true _ (Kd.C_below HR.out HB3.out) HC.out T1.out).mono ?_); rintro e w4 ⟨rfl, hb⟩; have HB4 := Aside0.mk (below_step HB3.out hb); have BD4 := Aside0.mk (blk_below BD3.out hb); have BR4 := Aside0.mk (blk_below BR3.out hb); have d40 : w4.cell? ⟨g0, 0, none⟩ = some (.int .i64 a0_0) := (blk_cell BD4.out 0).trans rfl; have d41 : w4.cell? ⟨g0, 1, none⟩ = some (.slice A0_1 l0_1.length c0_1) := (blk_cell BD4.out 1).trans rfl; have r40 : w4.cell? ⟨gr, 0, none⟩ = some (.int .i64 0) := (blk_cell BR4.out 0).trans rfl; have r41 : w4.cell? ⟨gr, 1, none⟩ = some (.slice none 0 0) := (blk_cell BR4.out 1).trans rfl; have q40 := blk_frozen BR4.out 0; have q41 := blk_frozen BR4.out 1; clear hb) | (go_at_call 52; (with_reducible refine (impl_in.calls v 0 (wrap64 (a0_0 - 1)) true _ T2.out).mono ?_); rintro e w5 ⟨rfl, hb⟩; replace hb := hb.below; have HB5 := Aside0.mk (below_step HB4.out hb); have BD5 := Aside0.mk (blk_below BD4.out hb); have BR5 := Aside0.mk (blk_below BR4.out hb); have d50 : w5.cell? ⟨g0, 0, none⟩ = some (.int .i64 a0_0) := (blk_cell BD5.out 0).trans rfl; have d51 : w5.cell? ⟨g0, 1, none⟩ = some (.slice A0_1 l0_1.length c0_1) := (blk_cell BD5.out 1).trans rfl; have r50 : w5.cell? ⟨gr, 0, none⟩ = some (.int .i64 0) := (blk_cell BR5.out 0).trans rfl; have r51 : w5.cell? ⟨gr, 1, none⟩ = some (.slice none 0 0) := (blk_cell BR5.out 1).trans rfl; have q50 := blk_frozen BR5.out 0; have q51 := blk_frozen BR5.out 1; clear hb) | (go_at_call 52; (with_reducible refine (impl_in.calls value 0 1 false _ T3.out).mono ?_); rintro e w6 ⟨rfl, hb⟩; replace hb := hb.below; have HB6 := Aside0.mk (below_step HB5.out hb); have BD6 := Aside0.mk (blk_below BD5.out hb); have BR6 := Aside0.mk (blk_below BR5.out hb); have d60 : w6.cell? ⟨g0, 0, none⟩ = some (.int .i64 a0_0) := (blk_cell BD6.out 0).trans rfl; have d61 : w6.cell? ⟨g0, 1, none⟩ = some (.slice A0_1 l0_1.length c0_1) := (blk_cell BD6.out 1).trans rfl; have r60 : w6.cell? ⟨gr, 0, none⟩ = some (.int .i64 0) := (blk_cell BR6.out 0).trans rfl; have r61 : w6.cell? ⟨gr, 1, none⟩ = some (.slice none 0 0) := (blk_cell BR6.out 1).trans rfl; have q60 := blk_frozen BR6.out 0; have q61 := blk_frozen BR6.out 1; clear hb))
     refine bodyPost_ret (results_ct rfl _ _ gr 25 #[.int .i64 0, .slice none 0 0] (0, 0) _ rfl (blk_put (blk_put BR6.out 0 _ rfl) 1 _ rfl) Try.underlying25 rfl (by kernel_rfl)) rfl ?_
     exact ⟨_, rfl, Kd.R_nil _ _ _ _ _, below_set (below_set HB6.out GR.out) GR.out⟩
    | true =>
     rw [if_neg (by decide)] at h
     obtain ⟨s, hs, h_⟩ := Option.bind_eq_some_iff.mp h
     obtain ⟨⟨s2, mm, r⟩, hp, hd⟩ := Option.bind_eq_some_iff.mp h_
     have TS := Aside0.mk hs
     have TP := Aside0.mk hp
     have TD := Aside0.mk hd
     clear h h_ hs hp hd
     go_enter Try.func16, Try.ntmps16
     go_wp2_with (first | ((with_reducible refine gate_dst (N := 4) rfl ?_); refine box_event ?hg (N := 4) ?hd (cs := #[.int .i64 a0_0, .slice A0_1 l0_1.length c0_1]) (t := 25) ?hr ?_; (case hd => rfl); (case hg => rfl); (case hr => first | (go_simp; done) | (go_simp; rfl)); intro g0 hg0 w1 hbox hb; have BD1 := Aside0.mk hbox; have HB1 := Aside0.mk hb; clear hg0 hbox hb) | ((with_reducible refine gate_dst (N := 8) rfl ?_); refine box_event ?hg (N := 8) ?hd (cs := #[.int .i64 0, .slice none 0 0]) (t := 25) ?hr ?_; (case hd => rfl); (case hg => rfl); (case hr => first | (go_simp; done) | (go_simp; rfl)); intro gr hgr w2 hbox hb; have GR := Aside0.mk (show w.heap.size ≤ gr by rw [hgr]; exact HB1.out.size); have BR2 := Aside0.mk hbox; have BD2 := Aside0.mk (blk_below BD1.out hb); have HB2 := Aside0.mk (below_step HB1.out hb); have d20 : w2.cell? ⟨g0, 0, none⟩ = some (.int .i64 a0_0) := (blk_cell BD2.out 0).trans rfl; have d21 : w2.cell? ⟨g0, 1, none⟩ = some (.slice A0_1 l0_1.length c0_1) := (blk_cell BD2.out 1).trans rfl; clear hgr hbox hb) | (go_at_call 17; (with_reducible refine (impl_DiagramValid.calls a0_0 A0_1 c0_1 l0_1 true _ (Kd.C_below HR.out HB2.out) HC.out T0.out).mono ?_); rintro e w3 ⟨rfl, hb⟩; have HB3 := Aside0.mk (below_step HB2.out hb); have BD3 := Aside0.mk (blk_below BD2.out hb); have BR3 := Aside0.mk (blk_below BR2.out hb); have d30 : w3.cell? ⟨g0, 0, none⟩ = some (.int .i64 a0_0) := (blk_cell BD3.out 0).trans rfl; have d31 : w3.cell? ⟨g0, 1, none⟩ = some (.slice A0_1 l0_1.length c0_1) := (blk_cell BD3.out 1).trans rfl; have r30 : w3.cell? ⟨gr, 0, none⟩ = some (.int .i64 0) := (blk_cell BR3.out 0).trans rfl; have r31 : w3.cell? ⟨gr, 1, none⟩ = some (.slice none 0 0) := (blk_cell BR3.out 1).trans rfl; have q30 := blk_frozen BR3.out 0; have q31 := blk_frozen BR3.out 1; clear hb) | (go_at_call 53; (with_reducible refine (impl_Diagram_isPlace.calls a0_0 A0_1 c0_1 l0_1 n true _ (Kd.C_below HR.out HB3.out) HC.out T1.out).mono ?_); rintro e w4 ⟨rfl, hb⟩; have HB4 := Aside0.mk (below_step HB3.out hb); have BD4 := Aside0.mk (blk_below BD3.out hb); have BR4 := Aside0.mk (blk_below BR3.out hb); have d40 : w4.cell? ⟨g0, 0, none⟩ = some (.int .i64 a0_0) := (blk_cell BD4.out 0).trans rfl; have d41 : w4.cell? ⟨g0, 1, none⟩ = some (.slice A0_1 l0_1.length c0_1) := (blk_cell BD4.out 1).trans rfl; have r40 : w4.cell? ⟨gr, 0, none⟩ = some (.int .i64 0) := (blk_cell BR4.out 0).trans rfl; have r41 : w4.cell? ⟨gr, 1, none⟩ = some (.slice none 0 0) := (blk_cell BR4.out 1).trans rfl; have q40 := blk_frozen BR4.out 0; have q41 := blk_frozen BR4.out 1; clear hb) | (go_at_call 52; (with_reducible refine (impl_in.calls v 0 (wrap64 (a0_0 - 1)) true _ T2.out).mono ?_); rintro e w5 ⟨rfl, hb⟩; replace hb := hb.below; have HB5 := Aside0.mk (below_step HB4.out hb); have BD5 := Aside0.mk (blk_below BD4.out hb); have BR5 := Aside0.mk (blk_below BR4.out hb); have d50 : w5.cell? ⟨g0, 0, none⟩ = some (.int .i64 a0_0) := (blk_cell BD5.out 0).trans rfl; have d51 : w5.cell? ⟨g0, 1, none⟩ = some (.slice A0_1 l0_1.length c0_1) := (blk_cell BD5.out 1).trans rfl; have r50 : w5.cell? ⟨gr, 0, none⟩ = some (.int .i64 0) := (blk_cell BR5.out 0).trans rfl; have r51 : w5.cell? ⟨gr, 1, none⟩ = some (.slice none 0 0) := (blk_cell BR5.out 1).trans rfl; have q50 := blk_frozen BR5.out 0; have q51 := blk_frozen BR5.out 1; clear hb) | (go_at_call 52; (with_reducible refine (impl_in.calls value 0 1 true _ T3.out).mono ?_); rintro e w6 ⟨rfl, hb⟩; replace hb := hb.below; have HB6 := Aside0.mk (below_step HB5.out hb); have BD6 := Aside0.mk (blk_below BD5.out hb); have BR6 := Aside0.mk (blk_below BR5.out hb); have d60 : w6.cell? ⟨g0, 0, none⟩ = some (.int .i64 a0_0) := (blk_cell BD6.out 0).trans rfl; have d61 : w6.cell? ⟨g0, 1, none⟩ = some (.slice A0_1 l0_1.length c0_1) := (blk_cell BD6.out 1).trans rfl; have r60 : w6.cell? ⟨gr, 0, none⟩ = some (.int .i64 0) := (blk_cell BR6.out 0).trans rfl; have r61 : w6.cell? ⟨gr, 1, none⟩ = some (.slice none 0 0) := (blk_cell BR6.out 1).trans rfl; have q60 := blk_frozen BR6.out 0; have q61 := blk_frozen BR6.out 1; clear hb) | (go_at_call 55; (with_reducible refine (impl_forkingOf.calls a0_0 A0_1 c0_1 l0_1 s _ (Kd.C_below HR.out HB6.out) HC.out TS.out).mono ?_); rintro e wF ⟨g, rfl, hi, hb⟩; have IF := Aside0.mk hi; have HBF := Aside0.mk hb; clear hi hb) | ((with_reducible refine gate_ (op := .makeMap 83 none) rfl ?_); refine Mp.made_event rfl (N := 41) rfl 83 rfl (Value.int .i64) KeyI (Value.int .i64) ?_; intro mb hmb wM hM_ hb; have IM : Aside0 (IsF wM w6.heap.size (fun k_ => w6.heap.size ≤ k_ ∧ k_ ≠ mb) g s) := ⟨IsF.mono (IF.out.bound.below hb) (fun k_ hk_ => ⟨hk_.1, fun e_ => by have := hk_.2.2; omega⟩)⟩; have MM := Aside0.mk hM_; have BM := Aside0.mk (below_then HBF.out HBF.out.size hb); have MB : Aside0 (w6.heap.size ≤ mb ∧ ¬ (w6.heap.size ≤ mb ∧ mb ≠ mb)) := ⟨⟨by rw [hmb]; exact HBF.out.size, fun h_ => h_.2 rfl⟩⟩; have HFX : Aside0 (∀ k_, wM.heap.size ≤ k_ → w6.heap.size ≤ k_ ∧ k_ ≠ mb) := ⟨fun k_ h_ => ⟨Nat.le_trans BM.out.size h_, fun e_ => by have := hM_.lt; omega⟩⟩; clear hmb hM_ hb) | (go_at_call 63; (with_reducible refine (impl_forking_fix.calls k s s2 n v value r (fun _ => none) mm mb _ g w6 _ BM.out IM.out MM.out MB.out HFX.out TP.out).mono ?_); rintro e wG ⟨rfl, hi_, hm_, hb_, hk_⟩; have IG := Aside0.mk hi_; have HBG := Aside0.mk hb_; clear hi_ hm_ hb_ hk_) | (go_at_call 56; (with_reducible refine (impl_forking_done.calls s2 r r1 r2 r3 _ _ g _ IG.out TD.out).mono ?_); rintro e wD ⟨v1, rfl, hR, hb⟩; obtain ⟨A5, c5, rfl⟩ := Kd.R_slice hR; have HBD := Aside0.mk (below_then HBG.out HBG.out.size hb); have BRD := Aside0.mk (blk_below BR6.out HBD.out); have RD := Aside0.mk (Kd.R_lower hR (Nat.le_trans HB6.out.size HBG.out.size)); have r90 : wD.cell? ⟨gr, 0, none⟩ = some (.int .i64 0) := (blk_cell BRD.out 0).trans rfl; have r91 : wD.cell? ⟨gr, 1, none⟩ = some (.slice none 0 0) := (blk_cell BRD.out 1).trans rfl; have q90 := blk_frozen BRD.out 0; have q91 := blk_frozen BRD.out 1; clear hR hb))
     refine bodyPost_ret (results_ct rfl _ _ gr 25 #[.int .i64 r1, .slice A5 r2.length c5] (0, 0) _ rfl (blk_put (blk_put BRD.out 0 _ rfl) 1 _ rfl) Try.underlying25 rfl (by kernel_rfl)) rfl ?_
     exact ⟨_, rfl, Kd.R_mono (Kd.R_far (p := ⟨gr, 1, none⟩) (Kd.R_far (p := ⟨gr, 0, none⟩) (Kd.R_types RD.out BRD.out (by decide)) (fun _ hk => hk.2) _) (fun _ hk => hk.2) _) (fun _ _ => trivial), below_set (below_set (below_step HB6.out HBD.out) GR.out) GR.out⟩

/-! ### impl_Diagram_count: function 73 -/
def impl_Diagram_count.cl : Nat → Int → List S71 → Int → (Int → Option Int) → Option ((Int → Option Int) × Int)
 | 0, _, _, _, _ => none
 | k + 1, vars, L, n, m => if n < 2 then (if 0 ≤ vars ∧ vars ≤ 64 then some (m, shl .i64 n vars) else none)
  else if KeyI n then
   match m n with
   | some r => some (m, r)
   | none => if 0 ≤ wrap64 (n - 2) then if wrap64 (n - 2) < (L.length : Int) then
     (impl_Diagram_count.cl k vars L (rd_T71 L (wrap64 (n - 2))).f1 m).bind fun p1 => (impl_Diagram_count.cl k vars L (rd_T71 L (wrap64 (n - 2))).f2 p1.1).bind fun p2 =>
     some ((fun y => if y = n then some (wrap64 ((wrap64 (p1.2 + p2.2)).tdiv 2)) else p2.1 y), wrap64 ((wrap64 (p1.2 + p2.2)).tdiv 2)) else none else none
  else none
theorem impl_Diagram_count.cl_le : ∀ (k : Nat) (vars : Int) (L : List S71) (n : Int) (m : Int → Option Int), LeO (impl_Diagram_count.cl k vars L n m) (impl_Diagram_count.cl (k + 1) vars L n m)
 | 0 => fun _ _ _ _ r h => by simp [impl_Diagram_count.cl] at h
 | k + 1 => fun vars L n m => by
  have ih := impl_Diagram_count.cl_le k
  rw [impl_Diagram_count.cl, impl_Diagram_count.cl]
  refine LeO.ite (LeO.refl _) (LeO.ite ?_ (LeO.refl _))
  cases m n with
  | some r => exact LeO.refl _
  | none => exact LeO.ite (LeO.ite (LeO.bind (ih _ _ _ _) (fun _ => LeO.bind (ih _ _ _ _) (fun _ => LeO.refl _))) (LeO.refl _)) (LeO.refl _)
def impl_Diagram_count.f (k : Nat) (a0_0 : Int) (l0_1 : List S71) (a1 : Int) : Option Int := (impl_Diagram_count.cl k a0_0 l0_1 a1 (fun _ => none)).bind fun p => some p.2
theorem impl_Diagram_count.mono : ∀ a0_0 l0_1 a1 k, LeO (impl_Diagram_count.f k a0_0 l0_1 a1) (impl_Diagram_count.f (k + 1) a0_0 l0_1 a1) := fun a0_0 l0_1 a1 k => LeO.bind (impl_Diagram_count.cl_le k _ _ _ _) (fun _ => LeO.refl _)
def impl_Diagram_count.T7 : Bool × List (List Nat × List Nat) := (true, [([], []), ([], []), ([], []), ([], []), ([3], [3]), ([2, 4], [2, 4]), ([], []), ([], []), ([7], [7]), ([6, 8, 5], [6, 8]), ([5, 9], [5, 9]), ([10], [10]), ([0, 1, 11, 9, 0, 1, 2, 3, 4, 5, 6, 7, 8, 9, 10, 11], [0, 1, 11])])
def impl_Diagram_count.B7 : List Nat := [0, 0, 0, 0, 8, 28, 0, 0, 128, 508, 1020, 2044, 4095]
theorem impl_Diagram_count.tab7 : rtab .any (opsOf Try.f105 7) = impl_Diagram_count.T7 := by kernel_rfl
theorem impl_Diagram_count.bits7 : waitsOk impl_Diagram_count.T7.2 impl_Diagram_count.B7 = true := by kernel_rfl
set_option maxHeartbeats 16000000 in
set_option maxRecDepth 100000 in
theorem impl_Diagram_count.cl_calls (eg : ∀ args w, (callFunc 105 args).run Try.prog w = .ok (.enter 105 args) w) : ∀ (k : Nat) (vars : Int) (L : List S71) (n : Int) (m m' : Int → Option Int) (r : Int) (A : Option Addr) (c : Nat) (gd gm gf mb : Nat) (w0 w : World) (_ : Below w0.heap.size w0 w)
  (_ : w.heap[gd]? = some (.cells #[.int .i64 vars, .slice A L.length c] 25 (0, 0))) (_ : w.heap[gm]? = some (.cells #[.map (some mb)] 83 (0, 0))) (_ : w.heap[gf]? = some (.cells #[.func (.func 105) #[] #[.pointer (some ⟨gd, 0, none⟩), .pointer (some ⟨gm, 0, none⟩), .pointer (some ⟨gf, 0, none⟩)]] 69 (0, 0))) (_ : Mp.Is (Value.int .i64) KeyI (Value.int .i64) w mb m) (_ : w0.heap.size ≤ mb) (_ : ∀ W, Kept w W (fun k_ => k_ = mb) → Kd.C k71 W A L.length L) (_ : L.length ≤ c) (_ : impl_Diagram_count.cl k vars L n m = some (m', r)),
  Calls Try.prog 105 (#[.int .i64 n] ++ #[.pointer (some ⟨gd, 0, none⟩), .pointer (some ⟨gm, 0, none⟩), .pointer (some ⟨gf, 0, none⟩)]) w fun e w' => e = .returned (.int .i64 r) ∧ Mp.Is (Value.int .i64) KeyI (Value.int .i64) w' mb m' ∧ Below w0.heap.size w0 w' ∧ Kept w w' (fun k_ => k_ = mb)
 | 0 => fun _ _ _ _ _ _ _ _ _ _ _ _ _ _ _ _ _ _ _ _ _ _ h => by simp [impl_Diagram_count.cl] at h
 | k + 1 => fun vars L n m m' r A c gd gm gf mb w0 w hB hgd hgm hgf hM hmb hC hc h => by
  show Calls Try.prog 105 #[.int .i64 n, .pointer (some ⟨gd, 0, none⟩), .pointer (some ⟨gm, 0, none⟩), .pointer (some ⟨gf, 0, none⟩)] w _
  have IH := Aside0.mk (impl_Diagram_count.cl_calls eg k)
  have hu25 := Try.underlying25
  have hu71 := Try.underlying71
  have HB := Aside0.mk hB
  have HM := Aside0.mk hM
  have MB := Aside0.mk hmb
  have HC := Aside0.mk hC
  have HL := Aside0.mk hc
  have BGD := Aside0.mk hgd
  have BGM := Aside0.mk hgm
  have BGF := Aside0.mk hgf
  have NE : Aside0 (gd ≠ mb ∧ gm ≠ mb ∧ gf ≠ mb) := by
   obtain ⟨es, ck, hb, _⟩ := hM
   refine ⟨?_, ?_, ?_⟩
   ·rintro rfl
    rw [hb] at hgd
    cases hgd
   ·rintro rfl
    rw [hb] at hgm
    cases hgm
   ·rintro rfl
    rw [hb] at hgf
    cases hgf
  have d0 : w.cell? ⟨gd, 0, none⟩ = some (.int .i64 vars) := (blk_cell hgd 0).trans rfl
  have d1 : w.cell? ⟨gd, 1, none⟩ = some (.slice A L.length c) := (blk_cell hgd 1).trans rfl
  have m0 : w.cell? ⟨gm, 0, none⟩ = some (.map (some mb)) := (blk_cell hgm 0).trans rfl
  rw [impl_Diagram_count.cl] at h
  clear hB hgd hgm hgf hM hmb hC hc
  by_cases c1 : n < 2
  ·rw [if_pos c1] at h
   by_cases c2 : 0 ≤ vars ∧ vars ≤ 64
   ·rw [if_pos c2] at h
    simp only [Option.some.injEq, Prod.mk.injEq] at h
    obtain ⟨rfl, hj⟩ := h
    have e1 : decide (n < 2) = true := decide_eq_true c1
    have h64 := c2.2
    have z0 := c2.1
    have zb0 := eq_true z0
    have zb1 : decide (0 ≤ vars) = true := decide_eq_true z0
    have zj_ : (IntKind.i64.wrap (n * 2 ^ min vars.toNat 64)) = r := hj
    have zjz : (IntKind.i64.wrap (n * 2 ^ vars.toNat)) = r := shl_small hj h64
    have zjy : (wrap64 (n * 2 ^ min vars.toNat 64)) = r := (i64_w _).symm.trans zj_
    have zjx : (wrap64 (n * 2 ^ vars.toNat)) = r := (i64_w _).symm.trans zjz
    clear c1 c2 hj
    go_enter Try.func105, Try.ntmps105
    go_wp2
    go_ret
    exact ⟨by first | rfl | (simp [*]; done), HM.out, HB.out, Kept.refl _ _⟩
   ·rw [if_neg c2] at h
    cases h
  rw [if_neg c1] at h
  have e1 : decide (n < 2) = false := decide_eq_false c1
  clear c1
  by_cases c3 : KeyI n
  ·rw [if_pos c3] at h
   have C3 := Aside0.mk c3
   clear c3
   cases hs : m n with
   | some q =>
    rw [hs] at h
    simp only [Option.some.injEq, Prod.mk.injEq] at h
    obtain ⟨rfl, rfl⟩ := h
    go_enter Try.func105, Try.ntmps105
    go_wp2_with ((with_reducible refine gate_ (op := .lookup 83 (.tmp 16) (.tmp 17) true) rfl ?_); refine Mp.look_some rfl (.tmp 16) (.tmp 17) rfl rfl HM.out keyInt Try.underlying83 zero_int n rfl C3.out hs ?_)
    go_ret
    exact ⟨rfl, HM.out, HB.out, Kept.refl _ _⟩
   | none =>
    rw [hs] at h
    simp only at h
    obtain ⟨j, hj⟩ : ∃ j, wrap64 (n - 2) = j := ⟨_, rfl⟩
    have hjw : (IntKind.i64.wrap (n - 2)) = j := (i64_w _).trans hj
    rw [hj] at h
    by_cases c4 : 0 ≤ j
    ·rw [if_pos c4] at h
     by_cases c5 : j < (L.length : Int)
     ·rw [if_pos c5] at h
      obtain ⟨ad, rfl, hx0, hx1, hx2⟩ := at_T71 (HC.out w (Kept.refl _ _)) j c4 c5
      have c4b : decide (0 ≤ j) = true := decide_eq_true c4
      have c5b : decide (j < (L.length : Int)) = true := decide_eq_true c5
      generalize rd_T71 L j = x at h hx0 hx1 hx2
      obtain ⟨⟨m1, r1⟩, hp1, h2⟩ := Option.bind_eq_some_iff.mp h
      obtain ⟨⟨m2, r2⟩, hp2, h3⟩ := Option.bind_eq_some_iff.mp h2
      simp only [Option.some.injEq, Prod.mk.injEq] at h3 hp2
      obtain ⟨hm3, hr3⟩ := h3
      have P1 := Aside0.mk hp1
      have P2 := Aside0.mk hp2
      obtain ⟨sm, hsm⟩ : ∃ sm, wrap64 (r1 + r2) = sm := ⟨_, rfl⟩
      rw [hsm] at hm3 hr3
      rw [hr3] at hm3
      have M3 := Aside0.mk hm3
      have R3 := Aside0.mk hr3
      have SM := Aside0.mk hsm
      clear h h2 hp1 hp2 hm3 hr3 hsm hj
      go_enter Try.func105, Try.ntmps105
      go_upto_region 7 with (first | ((with_reducible refine gate_ (op := .lookup 83 (.tmp 16) (.tmp 17) true) rfl ?_); refine Mp.look_none rfl (.tmp 16) (.tmp 17) rfl rfl HM.out keyInt Try.underlying83 zero_int n rfl C3.out hs ?_) | ((with_reducible refine gate_dst (N := 8) rfl ?_); refine box_event ?hg (N := 8) ?hd (cs := #[.int .i64 0, .int .i64 0, .int .i64 0]) (t := 71) ?hr ?_; (case hd => rfl); (case hg => rfl); (case hr => first | (go_simp; done) | (go_simp; rfl)); intro gb hgb w7 hbox hb; have BX0 := Aside0.mk hbox; have HB7 := Aside0.mk hb; have hz0 : w7.cell? ⟨gb, 0, none⟩ = some (.int .i64 0) := (blk_cell BX0.out 0).trans rfl; have hz1 : w7.cell? ⟨gb, 1, none⟩ = some (.int .i64 0) := (blk_cell BX0.out 1).trans rfl; have hz2 : w7.cell? ⟨gb, 2, none⟩ = some (.int .i64 0) := (blk_cell BX0.out 2).trans rfl; have hy0 := blk_frozen BX0.out 0; have hy1 := blk_frozen BX0.out 1; have hy2 := blk_frozen BX0.out 2; have HGB := Aside0.mk (show w.heap.size ≤ gb from Nat.le_of_eq hgb.symm); clear hgb hbox hb))
      have n0_ := Aside0.mk (below_set (below_set (below_set HB7.out HGB.out (j := 0) (v := .int .i64 x.f0)) HGB.out (j := 1) (v := .int .i64 x.f1)) HGB.out (j := 2) (v := .int .i64 x.f2))
      have BX8 := Aside0.mk (blk_put (blk_put (blk_put BX0.out 0 (.int .i64 x.f0) rfl) 1 (.int .i64 x.f1) rfl) 2 (.int .i64 x.f2) rfl)
      generalize (((w7.setCell ⟨gb, 0, none⟩ (.int .i64 x.f0)).setCell ⟨gb, 1, none⟩ (.int .i64 x.f1)).setCell ⟨gb, 2, none⟩ (.int .i64 x.f2)) = w8 at n0_ BX8 ⊢
      have NG : Aside0 (gb ≠ mb) := ⟨fun e_ => by have := HM.out.lt; have := HGB.out; omega⟩
      clear hz0 hz1 hz2 hy0 hy1 hy2 BX0 HB7 hx0 hx1 hx2
      refine start_ (n := 13) (S := fun w' => True) (ds := []) (Pt.bm 13 0) (by kernel_rfl) rfl rfl trivial (fun hHeld => ?_)
      refine with_tabW impl_Diagram_count.tab7 impl_Diagram_count.bits7 (fun HT_ HW_ => ?_)
      have n1_ := Aside0.mk (blk_drew BX8.out)
      have n2_ := Aside0.mk (Kept.of_below n0_.out (fun k_ => k_ = mb)).drew
      have n3_ := Aside0.mk (below_drew (below_then HB.out HB.out.size n0_.out))
      have n4_ := Aside0.mk ((HM.out.below n0_.out).drew)
      clear hHeld n0_ BX8
      generalize w8.drew = wS at n1_ n2_ n3_ n4_ ⊢
      refine Pt.pu 1 (some 30) (Pt.bm 13 2) (by kernel_rfl) ?_
      refine Pt.pu 3 (some 32) (v := .pointer (some ⟨gb, 1, none⟩)) (Pt.bm 13 10) (by kernel_rfl) ?_ (hy := by refine Or.inl ⟨by rfl, ?_⟩; intro w'; first | (go_simp; done) | (go_simp; rfl))
      refine Pt.pu 7 (some 36) (v := .pointer (some ⟨gb, 2, none⟩)) (Pt.bm 13 138) (by kernel_rfl) ?_ (hy := by refine Or.inl ⟨by rfl, ?_⟩; intro w'; first | (go_simp; done) | (go_simp; rfl))
      refine inv_at [0, 2, 4, 5, 6, 8, 9, 10, 11, 12] (fun a0_ b_ a' w' => a' = putSel a0_ b_ [(0, 29, .map (some mb)), (2, 31, .func (.func 105) #[] #[.pointer (some ⟨gd, 0, none⟩), .pointer (some ⟨gm, 0, none⟩), .pointer (some ⟨gf, 0, none⟩)]), (4, 33, .int .i64 x.f1), (5, 34, .int .i64 r1), (6, 35, .func (.func 105) #[] #[.pointer (some ⟨gd, 0, none⟩), .pointer (some ⟨gm, 0, none⟩), .pointer (some ⟨gf, 0, none⟩)]), (8, 37, .int .i64 x.f2), (9, 38, .int .i64 r2), (10, 39, .int .i64 sm), (11, 40, .int .i64 r)] ∧ w'.heap[gb]? = some (.cells #[.int .i64 x.f0, .int .i64 x.f1, .int .i64 x.f2] 71 (0, 0)) ∧ Kept w w' (fun k_ => k_ = mb) ∧ Below w0.heap.size w0 w' ∧ (b_ 5 = false → Mp.Is (Value.int .i64) KeyI (Value.int .i64) w' mb m) ∧ (b_ 5 = true → b_ 9 = false → Mp.Is (Value.int .i64) KeyI (Value.int .i64) w' mb m1) ∧ (b_ 9 = true → b_ 12 = false → Mp.Is (Value.int .i64) KeyI (Value.int .i64) w' mb m2) ∧ (b_ 12 = true → Mp.Is (Value.int .i64) KeyI (Value.int .i64) w' mb m')) HT_.out HW_.out (by kernel_rfl) (by kernel_rfl) ?_ ?_ ?_
      ·exact ⟨by simp only [putSel, Bool.false_eq_true, if_false], n1_.out, n2_.out, n3_.out, fun _ => n4_.out, fun h_ => absurd h_ (by decide), fun h_ => absurd h_ (by decide), fun h_ => absurd h_ (by decide)⟩
      ·clear n1_ n2_ n3_ n4_
       refine steps_cons ?_ ?_
       ·rintro b_ a' w' ⟨ha, Q_X, Q_K, Q_B, Q_0, Q_1, Q_2, Q_3⟩ hb_ hon hoff
        refine ⟨_, rfl, fun K hK => ?_⟩
        have e2 : a'.tmps[2]? = some (.pointer (some ⟨gm, 0, none⟩)) := by rw [ha]; exact (putSel_off rfl).trans rfl
        replace ha := Aside0.mk ha
        have BM1 := blk_kept BGM.out Q_K NE.out.2.1
        have hc0_ : w'.cell? ⟨gm, 0, none⟩ = some (.map (some mb)) := (blk_cell BM1 0).trans rfl
        refine value_ (w1 := w') (v := .map (some mb)) (by rfl) rfl ?_ ?_
        ·go_simp
         (try simp only [i64_w])
         try rfl
        exact hK.out _ _ ⟨(by rw [ha.out]; exact putSel_upk 0 hb_ rfl rfl rfl), Q_X, Q_K, Q_B, Q_0, Q_1, Q_2, Q_3⟩
       refine steps_cons ?_ ?_
       ·rintro b_ a' w' ⟨ha, Q_X, Q_K, Q_B, Q_0, Q_1, Q_2, Q_3⟩ hb_ hon hoff
        refine ⟨_, rfl, fun K hK => ?_⟩
        have e3 : a'.tmps[3]? = some (.pointer (some ⟨gf, 0, none⟩)) := by rw [ha]; exact (putSel_off rfl).trans rfl
        replace ha := Aside0.mk ha
        have BF1 := blk_kept BGF.out Q_K NE.out.2.2
        have hc0_ : w'.cell? ⟨gf, 0, none⟩ = some (.func (.func 105) #[] #[.pointer (some ⟨gd, 0, none⟩), .pointer (some ⟨gm, 0, none⟩), .pointer (some ⟨gf, 0, none⟩)]) := (blk_cell BF1 0).trans rfl
        refine value_ (w1 := w') (v := .func (.func 105) #[] #[.pointer (some ⟨gd, 0, none⟩), .pointer (some ⟨gm, 0, none⟩), .pointer (some ⟨gf, 0, none⟩)]) (by rfl) rfl ?_ ?_
        ·go_simp
         (try simp only [i64_w])
         try rfl
        exact hK.out _ _ ⟨(by rw [ha.out]; exact putSel_upk 1 hb_ rfl rfl rfl), Q_X, Q_K, Q_B, Q_0, Q_1, Q_2, Q_3⟩
       refine steps_cons ?_ ?_
       ·rintro b_ a' w' ⟨ha, Q_X, Q_K, Q_B, Q_0, Q_1, Q_2, Q_3⟩ hb_ hon hoff
        refine ⟨_, rfl, fun K hK => ?_⟩
        have e32 : a'.tmps[32]? = some (.pointer (some ⟨gb, 1, none⟩)) := by rw [ha]; exact (putSel_off rfl).trans rfl
        replace ha := Aside0.mk ha
        have hc0_ : w'.cell? ⟨gb, 1, none⟩ = some (.int .i64 x.f1) := (blk_cell Q_X 1).trans rfl
        refine value_ (w1 := w') (v := .int .i64 x.f1) (by rfl) rfl ?_ ?_
        ·go_simp
         (try simp only [i64_w])
         try rfl
        exact hK.out _ _ ⟨(by rw [ha.out]; exact putSel_upk 2 hb_ rfl rfl rfl), Q_X, Q_K, Q_B, Q_0, Q_1, Q_2, Q_3⟩
       refine steps_cons ?_ ?_
       ·rintro b_ a' w' ⟨ha, Q_X, Q_K, Q_B, Q_0, Q_1, Q_2, Q_3⟩ hb_ hon hoff
        refine ⟨_, rfl, fun K hK => ?_⟩
        have e31 : a'.tmps[31]? = some (.func (.func 105) #[] #[.pointer (some ⟨gd, 0, none⟩), .pointer (some ⟨gm, 0, none⟩), .pointer (some ⟨gf, 0, none⟩)]) := by rw [ha]; exact putSel_on (e := (2, 31, .func (.func 105) #[] #[.pointer (some ⟨gd, 0, none⟩), .pointer (some ⟨gm, 0, none⟩), .pointer (some ⟨gf, 0, none⟩)])) 1 rfl rfl (hon 2 (by kernel_rfl)) rfl
        have e33 : a'.tmps[33]? = some (.int .i64 x.f1) := by rw [ha]; exact putSel_on (e := (4, 33, .int .i64 x.f1)) 2 rfl rfl (hon 4 (by kernel_rfl)) rfl
        replace ha := Aside0.mk ha
        have QM_ := Q_0 hb_
        refine Pv.goesV 105 #[.pointer (some ⟨gd, 0, none⟩), .pointer (some ⟨gm, 0, none⟩), .pointer (some ⟨gf, 0, none⟩)] eg #[.int .i64 x.f1] (by rfl) rfl rfl (by first | (simp only [Act.eval, Array.getD_eq_getD_getElem?, Option.getD_some, e31]; done) | (simp only [Act.eval, Array.getD_eq_getD_getElem?, Option.getD_some, e31]; rfl)) (by first | (simp only [List.map_toArray, List.map_cons, List.map_nil, Act.eval, Array.getD_eq_getD_getElem?, Option.getD_some, e33]; done) | (simp only [List.map_toArray, List.map_cons, List.map_nil, Act.eval, Array.getD_eq_getD_getElem?, Option.getD_some, e33]; rfl)) ?_
        with_reducible refine (IH.out vars L x.f1 m m1 r1 (some ad) c gd gm gf mb w0 _ Q_B (blk_kept BGD.out Q_K NE.out.1) (blk_kept BGM.out Q_K NE.out.2.1) (blk_kept BGF.out Q_K NE.out.2.2) QM_ MB.out (fun W_ hk_ => HC.out W_ (Q_K.then_ hk_ (fun _ h_ => .inl h_))) HL.out P1.out).mono ?_
        rintro e w10 ⟨rfl, q1_, q2_, q3_⟩
        exact ⟨_, rfl, hK.out _ _ ⟨(by rw [ha.out]; exact putSel_upk 3 hb_ rfl rfl rfl), blk_kept Q_X q3_ NG.out, Q_K.then_ q3_ (fun _ h_ => .inl h_), q2_, fun h_ => absurd ((up_self b_ 5).symm.trans h_) (by decide), fun _ _ => q1_, fun h_ _ => absurd ((hoff 9 (by kernel_rfl)).symm.trans h_) (by decide), fun h_ => absurd ((hoff 12 (by kernel_rfl)).symm.trans h_) (by decide)⟩⟩
       refine steps_cons ?_ ?_
       ·rintro b_ a' w' ⟨ha, Q_X, Q_K, Q_B, Q_0, Q_1, Q_2, Q_3⟩ hb_ hon hoff
        refine ⟨_, rfl, fun K hK => ?_⟩
        have e3 : a'.tmps[3]? = some (.pointer (some ⟨gf, 0, none⟩)) := by rw [ha]; exact (putSel_off rfl).trans rfl
        replace ha := Aside0.mk ha
        have BF1 := blk_kept BGF.out Q_K NE.out.2.2
        have hc0_ : w'.cell? ⟨gf, 0, none⟩ = some (.func (.func 105) #[] #[.pointer (some ⟨gd, 0, none⟩), .pointer (some ⟨gm, 0, none⟩), .pointer (some ⟨gf, 0, none⟩)]) := (blk_cell BF1 0).trans rfl
        refine value_ (w1 := w') (v := .func (.func 105) #[] #[.pointer (some ⟨gd, 0, none⟩), .pointer (some ⟨gm, 0, none⟩), .pointer (some ⟨gf, 0, none⟩)]) (by rfl) rfl ?_ ?_
        ·go_simp
         (try simp only [i64_w])
         try rfl
        exact hK.out _ _ ⟨(by rw [ha.out]; exact putSel_upk 4 hb_ rfl rfl rfl), Q_X, Q_K, Q_B, Q_0, Q_1, Q_2, Q_3⟩
       refine steps_cons ?_ ?_
       ·rintro b_ a' w' ⟨ha, Q_X, Q_K, Q_B, Q_0, Q_1, Q_2, Q_3⟩ hb_ hon hoff
        refine ⟨_, rfl, fun K hK => ?_⟩
        have e36 : a'.tmps[36]? = some (.pointer (some ⟨gb, 2, none⟩)) := by rw [ha]; exact (putSel_off rfl).trans rfl
        replace ha := Aside0.mk ha
        have hc0_ : w'.cell? ⟨gb, 2, none⟩ = some (.int .i64 x.f2) := (blk_cell Q_X 2).trans rfl
        refine value_ (w1 := w') (v := .int .i64 x.f2) (by rfl) rfl ?_ ?_
        ·go_simp
         (try simp only [i64_w])
         try rfl
        exact hK.out _ _ ⟨(by rw [ha.out]; exact putSel_upk 5 hb_ rfl rfl rfl), Q_X, Q_K, Q_B, Q_0, Q_1, Q_2, Q_3⟩
       refine steps_cons ?_ ?_
       ·rintro b_ a' w' ⟨ha, Q_X, Q_K, Q_B, Q_0, Q_1, Q_2, Q_3⟩ hb_ hon hoff
        refine ⟨_, rfl, fun K hK => ?_⟩
        have e35 : a'.tmps[35]? = some (.func (.func 105) #[] #[.pointer (some ⟨gd, 0, none⟩), .pointer (some ⟨gm, 0, none⟩), .pointer (some ⟨gf, 0, none⟩)]) := by rw [ha]; exact putSel_on (e := (6, 35, .func (.func 105) #[] #[.pointer (some ⟨gd, 0, none⟩), .pointer (some ⟨gm, 0, none⟩), .pointer (some ⟨gf, 0, none⟩)])) 4 rfl rfl (hon 6 (by kernel_rfl)) rfl
        have e37 : a'.tmps[37]? = some (.int .i64 x.f2) := by rw [ha]; exact putSel_on (e := (8, 37, .int .i64 x.f2)) 5 rfl rfl (hon 8 (by kernel_rfl)) rfl
        replace ha := Aside0.mk ha
        have QM_ := Q_1 (hon 5 (by kernel_rfl)) hb_
        refine Pv.goesV 105 #[.pointer (some ⟨gd, 0, none⟩), .pointer (some ⟨gm, 0, none⟩), .pointer (some ⟨gf, 0, none⟩)] eg #[.int .i64 x.f2] (by rfl) rfl rfl (by first | (simp only [Act.eval, Array.getD_eq_getD_getElem?, Option.getD_some, e35]; done) | (simp only [Act.eval, Array.getD_eq_getD_getElem?, Option.getD_some, e35]; rfl)) (by first | (simp only [List.map_toArray, List.map_cons, List.map_nil, Act.eval, Array.getD_eq_getD_getElem?, Option.getD_some, e37]; done) | (simp only [List.map_toArray, List.map_cons, List.map_nil, Act.eval, Array.getD_eq_getD_getElem?, Option.getD_some, e37]; rfl)) ?_
        with_reducible refine (IH.out vars L x.f2 m1 m2 r2 (some ad) c gd gm gf mb w0 _ Q_B (blk_kept BGD.out Q_K NE.out.1) (blk_kept BGM.out Q_K NE.out.2.1) (blk_kept BGF.out Q_K NE.out.2.2) QM_ MB.out (fun W_ hk_ => HC.out W_ (Q_K.then_ hk_ (fun _ h_ => .inl h_))) HL.out P2.out).mono ?_
        rintro e w10 ⟨rfl, q1_, q2_, q3_⟩
        exact ⟨_, rfl, hK.out _ _ ⟨(by rw [ha.out]; exact putSel_upk 6 hb_ rfl rfl rfl), blk_kept Q_X q3_ NG.out, Q_K.then_ q3_ (fun _ h_ => .inl h_), q2_, fun h_ => absurd ((hon 5 (by kernel_rfl)).symm.trans h_) (by decide), fun _ h_ => absurd ((up_self b_ 9).symm.trans h_) (by decide), fun _ _ => q1_, fun h_ => absurd ((hoff 12 (by kernel_rfl)).symm.trans h_) (by decide)⟩⟩
       refine steps_cons ?_ ?_
       ·rintro b_ a' w' ⟨ha, Q_X, Q_K, Q_B, Q_0, Q_1, Q_2, Q_3⟩ hb_ hon hoff
        refine ⟨_, rfl, fun K hK => ?_⟩
        have e34 : a'.tmps[34]? = some (.int .i64 r1) := by rw [ha]; exact putSel_on (e := (5, 34, .int .i64 r1)) 3 rfl rfl (hon 5 (by kernel_rfl)) rfl
        have e38 : a'.tmps[38]? = some (.int .i64 r2) := by rw [ha]; exact putSel_on (e := (9, 38, .int .i64 r2)) 6 rfl rfl (hon 9 (by kernel_rfl)) rfl
        replace ha := Aside0.mk ha
        have hw_ : (IntKind.i64.wrap (r1 + r2)) = sm := (i64_w _).trans SM.out
        have hw2_ := SM.out
        refine value_ (w1 := w') (v := .int .i64 sm) (by rfl) rfl ?_ ?_
        ·go_simp
         (try simp only [i64_w])
         (try rw [hw2_])
         try rfl
        exact hK.out _ _ ⟨(by rw [ha.out]; exact putSel_upk 7 hb_ rfl rfl rfl), Q_X, Q_K, Q_B, Q_0, Q_1, Q_2, Q_3⟩
       refine steps_cons ?_ ?_
       ·rintro b_ a' w' ⟨ha, Q_X, Q_K, Q_B, Q_0, Q_1, Q_2, Q_3⟩ hb_ hon hoff
        refine ⟨_, rfl, fun K hK => ?_⟩
        have e39 : a'.tmps[39]? = some (.int .i64 sm) := by rw [ha]; exact putSel_on (e := (10, 39, .int .i64 sm)) 7 rfl rfl (hon 10 (by kernel_rfl)) rfl
        replace ha := Aside0.mk ha
        have hw_ : (IntKind.i64.wrap (sm.tdiv 2)) = r := (i64_w _).trans R3.out
        have hw2_ := R3.out
        refine value_ (w1 := w') (v := .int .i64 r) (by rfl) rfl ?_ ?_
        ·go_simp
         (try simp only [i64_w])
         (try rw [hw2_])
         try rfl
        exact hK.out _ _ ⟨(by rw [ha.out]; exact putSel_upk 8 hb_ rfl rfl rfl), Q_X, Q_K, Q_B, Q_0, Q_1, Q_2, Q_3⟩
       refine steps_cons ?_ ?_
       ·rintro b_ a' w' ⟨ha, Q_X, Q_K, Q_B, Q_0, Q_1, Q_2, Q_3⟩ hb_ hon hoff
        refine ⟨_, rfl, fun K hK => ?_⟩
        have e29 : a'.tmps[29]? = some (.map (some mb)) := by rw [ha]; exact putSel_on (e := (0, 29, .map (some mb))) 0 rfl rfl (hon 0 (by kernel_rfl)) rfl
        have e40 : a'.tmps[40]? = some (.int .i64 r) := by rw [ha]; exact putSel_on (e := (11, 40, .int .i64 r)) 8 rfl rfl (hon 11 (by kernel_rfl)) rfl
        have e30 : a'.tmps[30]? = some (.int .i64 n) := by rw [ha]; exact (putSel_off rfl).trans rfl
        have h9 := hon 9 (by kernel_rfl)
        replace ha := Aside0.mk ha
        obtain ⟨w1, hrun, r1_, r2_, r3_⟩ := (Q_2 h9 hb_).store (P := Try.prog) keyInt Try.underlying83 C3.out r
        rw [M3.out] at r1_
        refine skip_ (w1 := w1) (by rfl) rfl ?_ ?_
        ·have q1_ : a'.eval (.tmp 29) = .map (some mb) := by simp only [Act.eval, Array.getD_eq_getD_getElem?, e29]; rfl
         have q2_ : a'.eval (.tmp 30) = .int .i64 n := by simp only [Act.eval, Array.getD_eq_getD_getElem?, e30]; rfl
         have q3_ : a'.eval (.tmp 40) = .int .i64 r := by simp only [Act.eval, Array.getD_eq_getD_getElem?, e40]; rfl
         simp [execOp, q1_, q2_, q3_, hrun, Result.andThen]
        exact hK.out _ _ ⟨(by rw [ha.out]; exact putSel_none (v := undef) rfl), (r2_.block gb (blk_lt Q_X) (fun e_ => NG.out (by cases e_; rfl))).trans Q_X, Kept.of_grown r2_ Q_K (fun k_ e_ => by cases e_; exact .inl rfl), Q_B.grown r2_ Q_B.size (fun k_ e_ => by cases e_; exact MB.out), fun h_ => absurd ((hon 5 (by kernel_rfl)).symm.trans h_) (by decide), fun _ h_ => absurd (h9.symm.trans h_) (by decide), fun _ h_ => absurd ((up_self b_ 12).symm.trans h_) (by decide), fun _ => r1_⟩
       exact steps_nil
      rintro b_ a' w9 hall ⟨ha, Q_X, Q_K, Q_B, Q_0, Q_1, Q_2, Q_3⟩
      have hb0_ := hall 0 (by kernel_rfl)
      have hb2_ := hall 2 (by kernel_rfl)
      have hb4_ := hall 4 (by kernel_rfl)
      have hb5_ := hall 5 (by kernel_rfl)
      have hb6_ := hall 6 (by kernel_rfl)
      have hb8_ := hall 8 (by kernel_rfl)
      have hb9_ := hall 9 (by kernel_rfl)
      have hb10_ := hall 10 (by kernel_rfl)
      have hb11_ := hall 11 (by kernel_rfl)
      have hb12_ := hall 12 (by kernel_rfl)
      subst ha
      simp only [putSel, hb0_, hb2_, hb4_, hb5_, hb6_, hb8_, hb9_, hb10_, hb11_, if_true, Act.put, List.setIfInBounds_toArray, List.set_cons_zero, List.set_cons_succ]
      have M9 := Aside0.mk (Q_3 hb12_)
      have K9 := Aside0.mk Q_K
      have B9 := Aside0.mk Q_B
      have m90 : w9.cell? ⟨gm, 0, none⟩ = some (.map (some mb)) := (blk_cell (blk_kept BGM.out K9.out NE.out.2.1) 0).trans rfl
      have s9 : m' n = some r := by rw [← M3.out]; simp
      clear hall hb0_ hb2_ hb4_ hb5_ hb6_ hb8_ hb9_ hb10_ hb11_ hb12_ Q_X Q_K Q_B Q_0 Q_1 Q_2 Q_3 n1_ n2_ n3_ n4_ m0
      go_wp2_with ((with_reducible refine gate_ (op := .lookup 83 (.tmp 41) (.tmp 42) false) rfl ?_); refine Mp.at_some rfl (.tmp 41) (.tmp 42) rfl rfl M9.out keyInt Try.underlying83 zero_int n rfl C3.out s9 ?_)
      go_ret
      exact ⟨rfl, M9.out, B9.out, K9.out⟩
     ·rw [if_neg c5] at h
      cases h
    ·rw [if_neg c4] at h
     cases h
  ·rw [if_neg c3] at h
   cases h
set_option maxHeartbeats 8000000 in
set_option maxRecDepth 100000 in
theorem impl_Diagram_count.calls (k : Nat) (a0_0 : Int) (A0_1 : Option Addr) (c0_1 : Nat) (l0_1 : List S71) (a1 : Int) (r : Int) (w : World) (hr : Kd.C k71 w A0_1 l0_1.length l0_1) (hc : l0_1.length ≤ c0_1) (h : impl_Diagram_count.f k a0_0 l0_1 a1 = some r) :
  Calls Try.prog 73 #[.agg #[.int .i64 a0_0, .slice A0_1 l0_1.length c0_1], .int .i64 a1] w fun e w' => e = .returned (.int .i64 r) ∧ Below w.heap.size w w' := by
 have eg : ∀ args w, (callFunc 105 args).run Try.prog w = .ok (.enter 105 args) w := enters_of Try.func105 (by kernel_rfl) rfl
 have hu25 := Try.underlying25
 obtain ⟨⟨m', r'⟩, hp, h2⟩ := Option.bind_eq_some_iff.mp h
 simp only [Option.some.injEq] at h2
 subst h2
 have HR := Aside0.mk hr
 have HC := Aside0.mk hc
 have P1 := Aside0.mk hp
 clear hr hc h hp
 go_enter Try.func73, Try.ntmps73
 go_wp2_with (first | ((with_reducible refine gate_dst (N := 2) rfl ?_); refine box_event ?hg (N := 2) ?hd (cs := #[.int .i64 a0_0, .slice A0_1 l0_1.length c0_1]) (t := 25) ?hr ?_; (case hd => rfl); (case hg => rfl); (case hr => first | (go_simp; done) | (go_simp; rfl)); intro gd hg_ w1 hbox hb; have BD1 := Aside0.mk hbox; have HB1 := Aside0.mk hb; clear hg_ hbox hb) | ((with_reducible refine gate_ (op := .makeMap 83 none) rfl ?_); refine Mp.made_event rfl (N := 7) rfl 83 rfl (Value.int .i64) KeyI (Value.int .i64) ?_; intro mb hmb w2 hM_ hb; have HMB := Aside0.mk (show w.heap.size ≤ mb by rw [hmb]; exact HB1.out.size); have HM2 := Aside0.mk hM_; have BD2 := Aside0.mk (blk_below BD1.out hb); have HB2 := Aside0.mk (below_step HB1.out hb); clear hmb hM_ hb) | ((with_reducible refine gate_dst (N := 5) rfl ?_); refine box_event ?hg (N := 5) ?hd (cs := #[.map none]) (t := 83) ?hr ?_; (case hd => rfl); (case hg => rfl); (case hr => first | (go_simp; done) | (go_simp; rfl)); intro gm hg_ w3 hbox hb; have HGM := Aside0.mk (show w.heap.size ≤ gm ∧ gm ≠ mb ∧ gm ≠ gd from ⟨by rw [hg_]; exact HB2.out.size, fun e_ => by have := HM2.out.lt; omega, fun e_ => by have := blk_lt BD2.out; omega⟩); have BM3 := Aside0.mk hbox; have BD3 := Aside0.mk (blk_below BD2.out hb); have HM3 := Aside0.mk (HM2.out.below hb); have HB3 := Aside0.mk (below_step HB2.out hb); have hz0 : w3.cell? ⟨gm, 0, none⟩ = some (.map none) := (blk_cell BM3.out 0).trans rfl; have hy0 := blk_frozen BM3.out 0; clear hg_ hbox hb) | ((with_reducible refine gate_dst (N := 6) rfl ?_); refine box_event ?hg (N := 6) ?hd (cs := #[.nilFunc]) (t := 69) ?hr ?_; (case hd => rfl); (case hg => rfl); (case hr => first | (go_simp; done) | (go_simp; rfl)); intro gf hg_ w4 hbox hb; have BF4 := Aside0.mk hbox; have BM4 := Aside0.mk (blk_below (blk_put BM3.out 0 (.map (some mb)) rfl) hb); have BD4 := Aside0.mk (blk_below (blk_far (p := ⟨gm, 0, none⟩) BD3.out HGM.out.2.2.symm (.map (some mb))) hb); have HM4 := Aside0.mk ((HM3.out.far (p := ⟨gm, 0, none⟩) HGM.out.2.1.symm (.map (some mb))).below hb); have HB4 := Aside0.mk (below_step (below_set HB3.out HGM.out.1 (j := 0) (v := .map (some mb))) hb); have LM_ := (HM3.out.far (p := ⟨gm, 0, none⟩) HGM.out.2.1.symm (.map (some mb))).lt; have LD_ := blk_lt (blk_far (p := ⟨gm, 0, none⟩) BD3.out HGM.out.2.2.symm (.map (some mb))); have LG_ := blk_lt (blk_put BM3.out 0 (.map (some mb)) rfl); have HGF := Aside0.mk (show w.heap.size ≤ gf ∧ gf ≠ mb ∧ gf ≠ gd ∧ gf ≠ gm from ⟨by rw [hg_]; exact (below_set HB3.out HGM.out.1 (j := 0) (v := .map (some mb))).size, by rw [hg_]; exact Nat.ne_of_gt LM_, by rw [hg_]; exact Nat.ne_of_gt LD_, by rw [hg_]; exact Nat.ne_of_gt LG_⟩); have hz1 : w4.cell? ⟨gf, 0, none⟩ = some .nilFunc := (blk_cell BF4.out 0).trans rfl; have hy1 := blk_frozen BF4.out 0; clear hg_ hbox hb LM_ LD_ LG_) | (go_at_fn 105; have QB := below_set HB4.out HGF.out.1 (j := 0) (v := .func (.func 105) #[] #[.pointer (some ⟨gd, 0, none⟩), .pointer (some ⟨gm, 0, none⟩), .pointer (some ⟨gf, 0, none⟩)]); have QC := (fun W_ hk_ => Kd.C_kept_came (Kd.heap_iso _ (Kd.heap_pair (Kd.heap_int .i64) (Kd.heap_pair (Kd.heap_int .i64) (Kd.heap_int .i64)))) HR.out QB (fun k_ (e_ : k_ = mb) => by rw [e_]; exact HMB.out) W_ hk_); refine (impl_Diagram_count.cl_calls eg k a0_0 l0_1 a1 (fun _ => none) m' r' A0_1 c0_1 gd gm gf mb w _ QB (blk_far (p := ⟨gf, 0, none⟩) BD4.out HGF.out.2.2.1.symm _) (blk_far (p := ⟨gf, 0, none⟩) BM4.out HGF.out.2.2.2.symm _) (blk_put BF4.out 0 _ rfl) (HM4.out.far (p := ⟨gf, 0, none⟩) HGF.out.2.1.symm _) HMB.out QC HC.out P1.out).mono ?_; rintro e w9 ⟨rfl, hm_, hb_, hk_⟩; have HB9 := Aside0.mk hb_; clear hm_ hb_ hk_ QB QC))
 go_ret
 exact ⟨rfl, HB9.out⟩

/-! ### impl_DiagramCount: function 29 -/
def impl_DiagramCount.f (k : Nat) (a0_0 : Int) (l0_1 : List (S71)) (a1 : Int) : Option (Int) := (impl_DiagramValid.f a0_0 l0_1).bind fun t112 => (if t112 = true then ((impl_Diagram_isPlace.f a0_0 l0_1 a1).bind fun t113 => (if t113 = true then ((impl_Diagram_count.f k a0_0 l0_1 a1).bind fun t114 => (some t114)) else (some (-1)))) else (some (-1)))
theorem impl_DiagramCount.mono : ∀ a0 a1 a2 k, LeO (impl_DiagramCount.f k a0 a1 a2) (impl_DiagramCount.f (k + 1) a0 a1 a2) := by
 intro a0 a1 a2 k
 unfold impl_DiagramCount.f
 repeat' first
   | (with_reducible exact impl_Diagram_count.mono _ _ _ _)
   | (with_reducible exact LeO.refl _)
   | (with_reducible exact LeO.none _)
   | (with_reducible refine LeO.ite ?_ ?_)
   | (with_reducible refine LeO.bind ?_ (fun _ => ?_))
   | exact impl_Diagram_count.mono _ _ _ _
   | exact LeO.none _
   | refine LeO.ite ?_ ?_
   | refine LeO.bind ?_ (fun _ => ?_)
set_option maxHeartbeats 8000000 in
set_option maxRecDepth 100000 in
theorem impl_DiagramCount.calls (k : Nat) (a0_0 : Int) (A0_1 : Option Addr) (c0_1 : Nat) (l0_1 : List (S71)) (a1 : Int) (r : Int) (w : World) (hr0_1 : Kd.C k71 w A0_1 l0_1.length l0_1) (hc0_1 : l0_1.length ≤ c0_1) (h : impl_DiagramCount.f k a0_0 l0_1 a1 = some r) :
  Calls Try.prog 29 #[.agg #[.int .i64 a0_0, .slice A0_1 l0_1.length c0_1], .int .i64 a1] w fun e w' => e = .returned (.int .i64 r) ∧ Below w.heap.size w w' := by
 have hu25 := Try.underlying25
 have HR0_1 := Aside0.mk hr0_1
 have HC0_1 := Aside0.mk hc0_1
 clear hr0_1 hc0_1
 have HB := Aside0.mk (Below.refl w.heap.size w)
 have H : ((impl_DiagramValid.f a0_0 l0_1).bind fun t112 => (if t112 = true then ((impl_Diagram_isPlace.f a0_0 l0_1 a1).bind fun t113 => (if t113 = true then ((impl_Diagram_count.f k a0_0 l0_1 a1).bind fun t114 => (some t114)) else (some (-1)))) else (some (-1)))) = some r := h
 clear h
 replace H := Option.bind_eq_some_iff.mp H
 obtain ⟨t112, A30, H⟩ := H
 replace H : (if t112 = true then ((impl_Diagram_isPlace.f a0_0 l0_1 a1).bind fun t113 => (if t113 = true then ((impl_Diagram_count.f k a0_0 l0_1 a1).bind fun t114 => (some t114)) else (some (-1)))) else (some (-1))) = some r := H
 have A3 := Aside0.mk A30
 clear A30
 by_cases c4 : t112 = true
 ·subst c4
  have H1 : ((impl_Diagram_isPlace.f a0_0 l0_1 a1).bind fun t113 => (if t113 = true then ((impl_Diagram_count.f k a0_0 l0_1 a1).bind fun t114 => (some t114)) else (some (-1)))) = some r := by rw [if_pos rfl] at H; exact H
  clear H
  have H := H1
  clear H1
  replace H := Option.bind_eq_some_iff.mp H
  obtain ⟨t113, A50, H⟩ := H
  replace H : (if t113 = true then ((impl_Diagram_count.f k a0_0 l0_1 a1).bind fun t114 => (some t114)) else (some (-1))) = some r := H
  have A5 := Aside0.mk A50
  clear A50
  by_cases c6 : t113 = true
  ·subst c6
   have H1 : ((impl_Diagram_count.f k a0_0 l0_1 a1).bind fun t114 => (some t114)) = some r := by rw [if_pos rfl] at H; exact H
   clear H
   have H := H1
   clear H1
   replace H := Option.bind_eq_some_iff.mp H
   obtain ⟨t114, A70, H⟩ := H
   replace H : (some t114) = some r := H
   have A7 := Aside0.mk A70
   clear A70
   obtain rfl := Option.some.inj H
   go_enter Try.func29, Try.ntmps29
   go_wp2_with (first | ((with_reducible refine gate_dst (N := 2) rfl ?_); refine box_event ?hg (N := 2) ?hd (cs := #[.int .i64 a0_0, .slice A0_1 l0_1.length c0_1]) (t := 25) ?hr ?_; (case hd => rfl); (case hg => rfl); (case hr => first | (go_simp; done) | (go_simp; rfl)); intro gb111 hg w8 hbox hb; have n0_ := Aside0.mk (below_step (by repeat (first | (with_reducible first | exact HB.out | apply bwA | apply bwN | apply bwD) | exact HB.out)) hb); have n1_ := Aside0.mk (hbox); have n2_ := Aside0.mk ((by rw [hg]; exact (below_size (by repeat (first | (with_reducible first | exact HB.out | apply bwA | apply bwN | apply bwD) | exact HB.out))) : w.heap.size ≤ gb111)); have n3_ := Aside0.mk ((by rw [hg]; exact (below_size (by repeat (first | (with_reducible first | exact HB.out | apply bwA | apply bwN | apply bwD) | exact HB.out))) : w.heap.size ≤ gb111)); clear HB; have HB := n0_; have BK111 := n1_; have GW111 := n2_; have GE111 := n3_; clear n0_ n1_ n2_ n3_; clear hb hbox hg; have hcz9_0 : w8.cell? ⟨gb111, 0, none⟩ = some (.int .i64 a0_0) := (blk_cell BK111.out 0).trans rfl; have hcz9_1 : w8.cell? ⟨gb111, 1, none⟩ = some (.slice A0_1 l0_1.length c0_1) := (blk_cell BK111.out 1).trans rfl; have hfz9_0 := blk_frozen BK111.out 0; have hfz9_1 := blk_frozen BK111.out 1) | ((with_reducible refine gate_callee (f := 17) rfl ?_); refine goesL_ (some 6) rfl rfl Try.func17 (by kernel_rfl) rfl #[.agg #[.int .i64 a0_0, .slice A0_1 l0_1.length c0_1]] rfl lmB ?_; (with_reducible refine (impl_DiagramValid.calls a0_0 _ _ l0_1 true _ ?side1 ?side2 A3.out).mono ?_); (case side1 => repeat (first | exact (Kd.C_below HR0_1.out HB.out) | (with_reducible refine Kd.C_alloc ?_ _) | (with_reducible refine Kd.C_drewN ?_ _) | (with_reducible refine Kd.C_drew ?_))); (case side2 => exact HC0_1.out); rintro e w10 ⟨rfl, hb⟩; refine ⟨_, rfl, ?_⟩; have n0_ := Aside0.mk (blk_below (g := gb111) (o := .cells #[.int .i64 a0_0, .slice A0_1 l0_1.length c0_1] 25 (0, 0)) (bvK BK111.out) hb); have n1_ := Aside0.mk (below_step (by repeat (first | (with_reducible first | exact HB.out | apply bwA | apply bwN | apply bwD | refine below_set ?_ GE111.out) | exact HB.out)) hb); clear BK111; clear HB; have BK111 := n0_; have HB := n1_; clear n0_ n1_; (try clear hb); (try clear hb2); (try clear hk); (try clear hi); have hcz11_0 : w10.cell? ⟨gb111, 0, none⟩ = some (.int .i64 a0_0) := (blk_cell BK111.out 0).trans rfl; have hcz11_1 : w10.cell? ⟨gb111, 1, none⟩ = some (.slice A0_1 l0_1.length c0_1) := (blk_cell BK111.out 1).trans rfl; have hfz11_0 := blk_frozen BK111.out 0; have hfz11_1 := blk_frozen BK111.out 1) | (go_at_call 53; (with_reducible refine (impl_Diagram_isPlace.calls a0_0 _ _ l0_1 a1 true _ ?side1 ?side2 A5.out).mono ?_); (case side1 => repeat (first | exact (Kd.C_below HR0_1.out HB.out) | (with_reducible refine Kd.C_alloc ?_ _) | (with_reducible refine Kd.C_drewN ?_ _) | (with_reducible refine Kd.C_drew ?_))); (case side2 => exact HC0_1.out); rintro e w12 ⟨rfl, hb⟩; have n0_ := Aside0.mk (blk_below (g := gb111) (o := .cells #[.int .i64 a0_0, .slice A0_1 l0_1.length c0_1] 25 (0, 0)) (bvK BK111.out) hb); have n1_ := Aside0.mk (below_step (by repeat (first | (with_reducible first | exact HB.out | apply bwA | apply bwN | apply bwD | refine below_set ?_ GE111.out) | exact HB.out)) hb); clear BK111; clear HB; have BK111 := n0_; have HB := n1_; clear n0_ n1_; (try clear hb); (try clear hb2); (try clear hk); (try clear hi); have hcz13_0 : w12.cell? ⟨gb111, 0, none⟩ = some (.int .i64 a0_0) := (blk_cell BK111.out 0).trans rfl; have hcz13_1 : w12.cell? ⟨gb111, 1, none⟩ = some (.slice A0_1 l0_1.length c0_1) := (blk_cell BK111.out 1).trans rfl; have hfz13_0 := blk_frozen BK111.out 0; have hfz13_1 := blk_frozen BK111.out 1) | ((with_reducible refine gate_callee (f := 73) rfl ?_); refine goesL_ (some 16) rfl rfl Try.func73 (by kernel_rfl) rfl #[.agg #[.int .i64 a0_0, .slice A0_1 l0_1.length c0_1], .int .i64 a1] rfl lmB ?_; (with_reducible refine (impl_Diagram_count.calls k a0_0 _ _ l0_1 a1 t114 _ ?side1 ?side2 A7.out).mono ?_); (case side1 => repeat (first | exact (Kd.C_below HR0_1.out HB.out) | (with_reducible refine Kd.C_alloc ?_ _) | (with_reducible refine Kd.C_drewN ?_ _) | (with_reducible refine Kd.C_drew ?_))); (case side2 => exact HC0_1.out); rintro e w14 ⟨rfl, hb⟩; refine ⟨_, rfl, ?_⟩; have n0_ := Aside0.mk (blk_below (g := gb111) (o := .cells #[.int .i64 a0_0, .slice A0_1 l0_1.length c0_1] 25 (0, 0)) (bvK BK111.out) hb); have n1_ := Aside0.mk (below_step (by repeat (first | (with_reducible first | exact HB.out | apply bwA | apply bwN | apply bwD | refine below_set ?_ GE111.out) | exact HB.out)) hb); clear BK111; clear HB; have BK111 := n0_; have HB := n1_; clear n0_ n1_; (try clear hb); (try clear hb2); (try clear hk); (try clear hi)))
   go_ret
   exact ⟨ers, by repeat (first | (with_reducible first | exact HB.out | apply bwA | apply bwN | apply bwD | refine below_set ?_ GE111.out) | exact HB.out)⟩
  ·replace c6 := Bool.eq_false_iff.mpr c6
   subst c6
   have H1 : (some (-1)) = some r := by rw [if_neg (show ¬ (false = true) by decide)] at H; exact H
   clear H
   have H := H1
   clear H1
   obtain rfl := Option.some.inj H
   go_enter Try.func29, Try.ntmps29
   go_wp2_with (first | ((with_reducible refine gate_dst (N := 2) rfl ?_); refine box_event ?hg (N := 2) ?hd (cs := #[.int .i64 a0_0, .slice A0_1 l0_1.length c0_1]) (t := 25) ?hr ?_; (case hd => rfl); (case hg => rfl); (case hr => first | (go_simp; done) | (go_simp; rfl)); intro gb111 hg w15 hbox hb; have n0_ := Aside0.mk (below_step (by repeat (first | (with_reducible first | exact HB.out | apply bwA | apply bwN | apply bwD) | exact HB.out)) hb); have n1_ := Aside0.mk (hbox); have n2_ := Aside0.mk ((by rw [hg]; exact (below_size (by repeat (first | (with_reducible first | exact HB.out | apply bwA | apply bwN | apply bwD) | exact HB.out))) : w.heap.size ≤ gb111)); have n3_ := Aside0.mk ((by rw [hg]; exact (below_size (by repeat (first | (with_reducible first | exact HB.out | apply bwA | apply bwN | apply bwD) | exact HB.out))) : w.heap.size ≤ gb111)); clear HB; have HB := n0_; have BK111 := n1_; have GW111 := n2_; have GE111 := n3_; clear n0_ n1_ n2_ n3_; clear hb hbox hg; have hcz16_0 : w15.cell? ⟨gb111, 0, none⟩ = some (.int .i64 a0_0) := (blk_cell BK111.out 0).trans rfl; have hcz16_1 : w15.cell? ⟨gb111, 1, none⟩ = some (.slice A0_1 l0_1.length c0_1) := (blk_cell BK111.out 1).trans rfl; have hfz16_0 := blk_frozen BK111.out 0; have hfz16_1 := blk_frozen BK111.out 1) | ((with_reducible refine gate_callee (f := 17) rfl ?_); refine goesL_ (some 6) rfl rfl Try.func17 (by kernel_rfl) rfl #[.agg #[.int .i64 a0_0, .slice A0_1 l0_1.length c0_1]] rfl lmB ?_; (with_reducible refine (impl_DiagramValid.calls a0_0 _ _ l0_1 true _ ?side1 ?side2 A3.out).mono ?_); (case side1 => repeat (first | exact (Kd.C_below HR0_1.out HB.out) | (with_reducible refine Kd.C_alloc ?_ _) | (with_reducible refine Kd.C_drewN ?_ _) | (with_reducible refine Kd.C_drew ?_))); (case side2 => exact HC0_1.out); rintro e w17 ⟨rfl, hb⟩; refine ⟨_, rfl, ?_⟩; have n0_ := Aside0.mk (blk_below (g := gb111) (o := .cells #[.int .i64 a0_0, .slice A0_1 l0_1.length c0_1] 25 (0, 0)) (bvK BK111.out) hb); have n1_ := Aside0.mk (below_step (by repeat (first | (with_reducible first | exact HB.out | apply bwA | apply bwN | apply bwD | refine below_set ?_ GE111.out) | exact HB.out)) hb); clear BK111; clear HB; have BK111 := n0_; have HB := n1_; clear n0_ n1_; (try clear hb); (try clear hb2); (try clear hk); (try clear hi); have hcz18_0 : w17.cell? ⟨gb111, 0, none⟩ = some (.int .i64 a0_0) := (blk_cell BK111.out 0).trans rfl; have hcz18_1 : w17.cell? ⟨gb111, 1, none⟩ = some (.slice A0_1 l0_1.length c0_1) := (blk_cell BK111.out 1).trans rfl; have hfz18_0 := blk_frozen BK111.out 0; have hfz18_1 := blk_frozen BK111.out 1) | (go_at_call 53; (with_reducible refine (impl_Diagram_isPlace.calls a0_0 _ _ l0_1 a1 false _ ?side1 ?side2 A5.out).mono ?_); (case side1 => repeat (first | exact (Kd.C_below HR0_1.out HB.out) | (with_reducible refine Kd.C_alloc ?_ _) | (with_reducible refine Kd.C_drewN ?_ _) | (with_reducible refine Kd.C_drew ?_))); (case side2 => exact HC0_1.out); rintro e w19 ⟨rfl, hb⟩; have n0_ := Aside0.mk (blk_below (g := gb111) (o := .cells #[.int .i64 a0_0, .slice A0_1 l0_1.length c0_1] 25 (0, 0)) (bvK BK111.out) hb); have n1_ := Aside0.mk (below_step (by repeat (first | (with_reducible first | exact HB.out | apply bwA | apply bwN | apply bwD | refine below_set ?_ GE111.out) | exact HB.out)) hb); clear BK111; clear HB; have BK111 := n0_; have HB := n1_; clear n0_ n1_; (try clear hb); (try clear hb2); (try clear hk); (try clear hi)))
   go_ret
   exact ⟨ers, by repeat (first | (with_reducible first | exact HB.out | apply bwA | apply bwN | apply bwD | refine below_set ?_ GE111.out) | exact HB.out)⟩
 ·replace c4 := Bool.eq_false_iff.mpr c4
  subst c4
  have H1 : (some (-1)) = some r := by rw [if_neg (show ¬ (false = true) by decide)] at H; exact H
  clear H
  have H := H1
  clear H1
  obtain rfl := Option.some.inj H
  go_enter Try.func29, Try.ntmps29
  go_wp2_with (first | ((with_reducible refine gate_dst (N := 2) rfl ?_); refine box_event ?hg (N := 2) ?hd (cs := #[.int .i64 a0_0, .slice A0_1 l0_1.length c0_1]) (t := 25) ?hr ?_; (case hd => rfl); (case hg => rfl); (case hr => first | (go_simp; done) | (go_simp; rfl)); intro gb111 hg w20 hbox hb; have n0_ := Aside0.mk (below_step (by repeat (first | (with_reducible first | exact HB.out | apply bwA | apply bwN | apply bwD) | exact HB.out)) hb); have n1_ := Aside0.mk (hbox); have n2_ := Aside0.mk ((by rw [hg]; exact (below_size (by repeat (first | (with_reducible first | exact HB.out | apply bwA | apply bwN | apply bwD) | exact HB.out))) : w.heap.size ≤ gb111)); have n3_ := Aside0.mk ((by rw [hg]; exact (below_size (by repeat (first | (with_reducible first | exact HB.out | apply bwA | apply bwN | apply bwD) | exact HB.out))) : w.heap.size ≤ gb111)); clear HB; have HB := n0_; have BK111 := n1_; have GW111 := n2_; have GE111 := n3_; clear n0_ n1_ n2_ n3_; clear hb hbox hg; have hcz21_0 : w20.cell? ⟨gb111, 0, none⟩ = some (.int .i64 a0_0) := (blk_cell BK111.out 0).trans rfl; have hcz21_1 : w20.cell? ⟨gb111, 1, none⟩ = some (.slice A0_1 l0_1.length c0_1) := (blk_cell BK111.out 1).trans rfl; have hfz21_0 := blk_frozen BK111.out 0; have hfz21_1 := blk_frozen BK111.out 1) | ((with_reducible refine gate_callee (f := 17) rfl ?_); refine goesL_ (some 6) rfl rfl Try.func17 (by kernel_rfl) rfl #[.agg #[.int .i64 a0_0, .slice A0_1 l0_1.length c0_1]] rfl lmB ?_; (with_reducible refine (impl_DiagramValid.calls a0_0 _ _ l0_1 false _ ?side1 ?side2 A3.out).mono ?_); (case side1 => repeat (first | exact (Kd.C_below HR0_1.out HB.out) | (with_reducible refine Kd.C_alloc ?_ _) | (with_reducible refine Kd.C_drewN ?_ _) | (with_reducible refine Kd.C_drew ?_))); (case side2 => exact HC0_1.out); rintro e w22 ⟨rfl, hb⟩; refine ⟨_, rfl, ?_⟩; have n0_ := Aside0.mk (blk_below (g := gb111) (o := .cells #[.int .i64 a0_0, .slice A0_1 l0_1.length c0_1] 25 (0, 0)) (bvK BK111.out) hb); have n1_ := Aside0.mk (below_step (by repeat (first | (with_reducible first | exact HB.out | apply bwA | apply bwN | apply bwD | refine below_set ?_ GE111.out) | exact HB.out)) hb); clear BK111; clear HB; have BK111 := n0_; have HB := n1_; clear n0_ n1_; (try clear hb); (try clear hb2); (try clear hk); (try clear hi)))
  go_ret
  exact ⟨ers, by repeat (first | (with_reducible first | exact HB.out | apply bwA | apply bwN | apply bwD | refine below_set ?_ GE111.out) | exact HB.out)⟩

/-! ### slices_IndexFunc_int_int: function 116 -/
set_option maxHeartbeats 400000 in
theorem slices_IndexFunc_int_int.calls (g : Nat) (lb : Array Value) (eg : ∀ args w, (callFunc g args).run Try.prog w = .ok (.enter g args) w)
  (A0 : Option Addr) (c0 : Nat) (l0 : List Int) (p : Int → Option Bool) (r : Int) (w : World) (hr0 : Kd.C (Kd.int .i64) w A0 l0.length l0)
  (hp : ∀ (i : Int), 0 ≤ i → i < l0.length → ∀ b, p i = some b → ∀ W, Below w.heap.size w W → Calls Try.prog g (#[.int .i64 (rd l0 i)] ++ lb) W fun e w' => e = .returned (.bool b) ∧ Below W.heap.size W w')
  (h : Copy.idxO p l0.length 0 = some r) :
  Calls Try.prog 116 #[.slice A0 l0.length c0, .func (.func g) #[] lb] w fun e w' => e = .returned (.int .i64 r) ∧ Below w.heap.size w w' := by
 have hn : l0.length ≤ 9223372036854775807 := hr0.2.1
 have HR0 := Aside0.mk hr0
 have HP := Aside0.mk hp
 have H := Aside0.mk h
 clear hp hr0 h
 go_enter Try.func116, Try.ntmps116
 go_wp2
 go_loopg [5, 8] l0.length (fun gg _ s8 wr => ∃ kk : Int, 0 ≤ kk ∧ kk ≤ (l0.length : Int) ∧ Aside0 (l0.length ≤ gg + kk) ∧ s8 = .int .i64 kk ∧ Aside0 (Below w.heap.size w wr) ∧ Aside0 (Copy.idxO p (l0.length - kk.toNat) kk = some r))
 case atStart => exact ⟨0, by omega, by omega, ⟨by omega⟩, rfl, ⟨Below.refl _ _⟩, H⟩
 case round =>
  clear H
  obtain ⟨kk, h0, hkk, hg, rfl, HB, A⟩ := hrel
  by_cases hlt : kk < (l0.length : Int)
  ·have hltb : decide (kk < (l0.length : Int)) = true := decide_eq_true hlt
   obtain ⟨ad, e1, hx0⟩ := Kd.at_int (Kd.C_below HR0.out HB.out) kk h0 hlt
   cases e1
   have hd : l0.length - kk.toNat = (l0.length - (kk + 1).toNat) + 1 := by omega
   have A1 := A.out
   rw [hd, Copy.idxO] at A1
   clear A hd
   obtain ⟨b, hq, A1⟩ := Option.bind_eq_some_iff.mp A1
   have hcall := Aside0.mk (HP.out kk h0 hlt b hq _ HB.out)
   have H0 := Aside0.mk h0
   replace h0 := eq_true h0
   clear hq
   cases b with
   | true =>
    rw [if_pos rfl] at A1
    obtain rfl := Option.some.inj A1
    clear A1
    go_wp2_with (go_at_fn g; refine hcall.out.mono ?_; rintro e w' ⟨rfl, HB1⟩)
    go_ret
    exact ⟨rfl, below_then HB.out HB.out.size HB1⟩
   | false =>
    have A' := Aside0.mk A1
    clear A1
    have hw : wrap64 (kk + 1) = kk + 1 := by have := H0.out; unfold wrap64; omega
    have HW := Aside0.mk hw
    clear hw
    go_wp2_with (go_at_fn g; refine hcall.out.mono ?_; rintro e w' ⟨rfl, HB1⟩)
    go_roundg (l0.length - (kk + 1).toNat)
    case measure => have := hg.out; have := H0.out; omega
    case rel => exact ⟨kk + 1, by have := H0.out; omega, by omega, ⟨by have := H0.out; omega⟩, by first | rfl | rw [HW.out], ⟨below_then HB.out HB.out.size HB1⟩, ⟨by have := A'.out; simpa using this⟩⟩
  ·have hltb : decide (kk < (l0.length : Int)) = false := decide_eq_false hlt
   have this : kk.toNat = l0.length := by omega
   have A1 := A.out
   rw [this, Nat.sub_self, Copy.idxO] at A1
   obtain rfl := Option.some.inj A1
   clear A A1 this
   go_wp2
   go_ret
   exact ⟨rfl, HB.out⟩

/-! ### slices_ContainsFunc_int_int: function 111 -/
set_option maxHeartbeats 400000 in
theorem slices_ContainsFunc_int_int.calls (g : Nat) (lb : Array Value) (eg : ∀ args w, (callFunc g args).run Try.prog w = .ok (.enter g args) w)
  (A0 : Option Addr) (c0 : Nat) (l0 : List Int) (p : Int → Option Bool) (r : Int) (w : World) (hr0 : Kd.C (Kd.int .i64) w A0 l0.length l0)
  (hp : ∀ (i : Int), 0 ≤ i → i < l0.length → ∀ b, p i = some b → ∀ W, Below w.heap.size w W → Calls Try.prog g (#[.int .i64 (rd l0 i)] ++ lb) W fun e w' => e = .returned (.bool b) ∧ Below W.heap.size W w')
  (h : Copy.idxO p l0.length 0 = some r) :
  Calls Try.prog 111 #[.slice A0 l0.length c0, .func (.func g) #[] lb] w fun e w' => e = .returned (.bool (decide (0 ≤ r))) ∧ Below w.heap.size w w' := by
 have HC := Aside0.mk (slices_IndexFunc_int_int.calls g lb eg A0 c0 l0 p r w hr0 hp h)
 clear hp hr0 h
 go_enter Try.func111, Try.ntmps111
 go_wp2_with (go_at_call 116; refine HC.out.mono ?_; rintro e w' ⟨rfl, HB1⟩)
 go_ret
 exact ⟨rfl, HB1⟩

/-! ### impl_bitsValid: function 87 -/
def impl_bitsValid.p (l0 : List Int) (i : Int) : Option Bool := (impl_in.f (rd l0 i) 0 1).bind fun b => some (!b)
theorem impl_bitsValid_pred (l0 : List Int) (w : World) : ∀ (i : Int), 0 ≤ i → i < l0.length → ∀ b, impl_bitsValid.p l0 i = some b → ∀ W, Below w.heap.size w W → Calls Try.prog 112 (#[.int .i64 (rd l0 i)] ++ #[]) W fun e w' => e = .returned (.bool b) ∧ Below W.heap.size W w' := by
 intro i h0 h1 b hb W hW
 obtain ⟨b1, hb1, hb2⟩ := Option.bind_eq_some_iff.mp hb
 obtain rfl := Option.some.inj hb2
 clear hb hb2
 have HC := Aside0.mk (impl_in.calls (rd l0 i) 0 1 b1 W hb1)
 clear hb1 hW h0 h1
 show Calls Try.prog 112 #[.int .i64 (rd l0 i)] W _
 generalize rd l0 i = x at HC ⊢
 cases b1
 all_goals
  go_enter Try.func112, Try.ntmps112
  go_wp2_with (go_at_call 52; refine HC.out.mono ?_; rintro e w' ⟨rfl, ⟨nd, rfl⟩⟩)
  go_ret
  exact ⟨by first | rfl | simp, by first | exact (Drawn0.below ⟨nd, rfl⟩) | exact Drawn0.below (Drawn0.mk ⟨_, rfl⟩)⟩
def impl_bitsValid.f (l0 : List Int) : Option Bool := (Copy.idxO (impl_bitsValid.p l0) l0.length 0).bind fun r => some (!(decide (0 ≤ r)))
set_option maxHeartbeats 400000 in
theorem impl_bitsValid.calls (A0 : Option Addr) (c0 : Nat) (l0 : List Int) (r : Bool) (w : World) (hr0 : Kd.C (Kd.int .i64) w A0 l0.length l0) (hc0 : l0.length ≤ c0) (h : impl_bitsValid.f l0 = some r) :
  Calls Try.prog 87 #[.slice A0 l0.length c0] w fun e w' => e = .returned (.bool r) ∧ Below w.heap.size w w' := by
 have eg : ∀ args w, (callFunc 112 args).run Try.prog w = .ok (.enter 112 args) w := enters_of Try.func112 (by kernel_rfl) rfl
 unfold impl_bitsValid.f at h
 obtain ⟨ri, hi, h⟩ := Option.bind_eq_some_iff.mp h
 obtain rfl := Option.some.inj h
 have HC := slices_ContainsFunc_int_int.calls 112 #[] eg A0 c0 l0 _ ri w hr0 (impl_bitsValid_pred l0 w) hi
 clear hi h hr0 eg
 generalize decide (0 ≤ ri) = b at HC ⊢
 have HC' := Aside0.mk HC
 clear HC
 cases b
 all_goals
  go_enter Try.func87, Try.ntmps87
  go_wp2_with (go_at_call 111; refine HC'.out.mono ?_; rintro e w' ⟨rfl, HB1⟩)
  go_ret
  exact ⟨by first | rfl | simp, HB1⟩

end Go.Proofs.Ytpcompnmadpljaa.QFnDiagramRow
