-- Written by a program of this session (mk.py). Lean checks it.
import Derived.Test.YtpcckoljocpchaaQFnReorderBackx0
import Derived.Test.YtpcckoljocpchaaQFnReorderBackx2
import Derived.Test.YtpcckoljocpchaaQFnReorderBackx7
import Derived.Test.YtpcckoljocpchaaQFnReorderBackx8
namespace Go.Proofs.Ytpcckoljocpchaa.QFnReorderBack
open Go.RowKit Go.Proofs.YtpcckoljocpchaaW.PrintWords Go.Proofs.YtpcckoljocpchaaW.PrintLast Go.Proofs.YtpcckoljocpchaaW.PrintMore
attribute [local go_sem] max2_int min2_int max_two min_two max_three min_three max_four min_four   -- for this text's walks alone
set_option linter.unusedVariables false
set_option linter.unusedSimpArgs false

/-! ### impl_compacted: function 92 -/
theorem keyInt : Mp.Key Try.prog 3 (Value.int .i64) KeyI where
 law := Maps.int_keyed Try.underlying3
 reads := fun x hx => by
  have hu := Try.underlying3
  exact ⟨.int .i64 x, by simp [keyOf, mapKey, hu, hx.wf]⟩
 inj := fun x y _ _ h => by
  simp at h
  exact h
def impl_compacted.cl : Nat → List S56 → FS → Int → (Int → Option Int) → Option (FS × (Int → Option Int) × Int)
 | 0, _, _, _, _ => none
 | k + 1, L, s, n, m => if KeyI n then
   match m n with
   | some r => some (s, m, r)
   | none => if 0 ≤ wrap64 (n - 2) then if wrap64 (n - 2) < (L.length : Int) then
     (impl_compacted.cl k L s (rd_T56 L (wrap64 (n - 2))).f1 m).bind fun p1 => (impl_compacted.cl k L p1.1 (rd_T56 L (wrap64 (n - 2))).f2 p1.2.1).bind fun p2 =>
     (impl_forking_fork.f p2.1 (rd_T56 L (wrap64 (n - 2))).f0 p1.2.2 p2.2.2).bind fun p3 => some (p3.1, (fun y => if y = n then some p3.2 else p2.2.1 y), p3.2) else none else none
  else none
theorem impl_compacted.cl_le : ∀ (k : Nat) (L : List S56) (s : FS) (n : Int) (m : Int → Option Int), LeO (impl_compacted.cl k L s n m) (impl_compacted.cl (k + 1) L s n m)
 | 0 => fun _ _ _ _ r h => by simp [impl_compacted.cl] at h
 | k + 1 => fun L s n m => by
  have ih := impl_compacted.cl_le k
  rw [impl_compacted.cl, impl_compacted.cl]
  refine LeO.ite ?_ (LeO.refl _)
  cases m n with
  | some r => exact LeO.refl _
  | none => exact LeO.ite (LeO.ite (LeO.bind (ih _ _ _ _) (fun _ => LeO.bind (ih _ _ _ _) (fun _ => LeO.refl _))) (LeO.refl _)) (LeO.refl _)
def impl_compacted.m0 (y : Int) : Option Int := if y = 1 then some 1 else if y = 0 then some 0 else none
def impl_compacted.f (k : Nat) (a0_0 : Int) (l0_1 : List S56) (a1 : Int) : Option (Int × List S56 × Int) := (impl_forkingOf.f a0_0 []).bind fun s => (impl_compacted.cl k l0_1 s a1 impl_compacted.m0).bind fun p => impl_forking_done.f p.1 p.2.2
theorem impl_compacted.mono : ∀ a0_0 l0_1 a1 k, LeO (impl_compacted.f k a0_0 l0_1 a1) (impl_compacted.f (k + 1) a0_0 l0_1 a1) := fun a0_0 l0_1 a1 k => LeO.bind (LeO.refl _) (fun _ => LeO.bind (impl_compacted.cl_le k _ _ _ _) (fun _ => LeO.refl _))
def impl_compacted.T7 : Bool × List (List Nat × List Nat) := (true, [([], []), ([], []), ([], []), ([], []), ([3], [3]), ([], []), ([], []), ([2, 4, 5, 6], [2, 4, 5, 6]), ([0, 1, 7, 7, 0, 1, 2, 3, 4, 5, 6, 7], [0, 1, 7])])
def impl_compacted.B7 : List Nat := [0, 0, 0, 0, 8, 0, 0, 124, 255]
theorem impl_compacted.tab7 : rtab .any (opsOf Try.f127 7) = impl_compacted.T7 := by kernel_rfl
theorem impl_compacted.bits7 : waitsOk impl_compacted.T7.2 impl_compacted.B7 = true := by kernel_rfl
def impl_compacted.T5 : Bool × List (List Nat × List Nat) := (true, [([], []), ([], []), ([], []), ([1, 2], [1, 2]), ([0, 3, 3], [0, 3]), ([4], [4]), ([4], [4]), ([5, 4, 0, 1, 2, 3, 4, 5, 6], [5]), ([6, 7, 0, 1, 2, 3, 4, 5, 6, 7], [6])])
def impl_compacted.B5 : List Nat := [0, 0, 0, 6, 15, 31, 31, 127, 255]
theorem impl_compacted.tab5 : rtab .any (opsOf Try.f92 5) = impl_compacted.T5 := by kernel_rfl
theorem impl_compacted.bits5 : waitsOk impl_compacted.T5.2 impl_compacted.B5 = true := by kernel_rfl
set_option maxHeartbeats 16000000 in
set_option maxRecDepth 100000 in
theorem impl_compacted.cl_calls (eg : ∀ args w, (callFunc 127 args).run Try.prog w = .ok (.enter 127 args) w) : ∀ (k : Nat) (vars : Int) (L : List S56) (s s' : FS) (n : Int) (m m' : Int → Option Int) (r : Int) (A : Option Addr) (c : Nat) (gm gd gf gk mb : Nat) (ok : Nat → Prop) (g : Nat) (w0 w : World) (_ : Below w0.heap.size w0 w)
  (_ : w.heap[gd]? = some (.cells #[.int .i64 vars, .slice A L.length c] 48 (0, 0))) (_ : w.heap[gm]? = some (.cells #[.map (some mb)] 135 (0, 0))) (_ : w.heap[gf]? = some (.cells #[.func (.func 127) #[] #[.pointer (some ⟨gm, 0, none⟩), .pointer (some ⟨gd, 0, none⟩), .pointer (some ⟨gf, 0, none⟩), .pointer (some ⟨gk, 0, none⟩)]] 93 (0, 0))) (_ : w.heap[gk]? = some (.cells #[.pointer (some ⟨g, 0, none⟩)] 126 (0, 0))) (_ : IsF w w0.heap.size ok g s) (_ : Mp.Is (Value.int .i64) KeyI (Value.int .i64) w mb m) (_ : w0.heap.size ≤ mb ∧ ¬ ok mb) (_ : ∀ k, w.heap.size ≤ k → ok k) (_ : ¬ ok gd ∧ ¬ ok gm ∧ ¬ ok gf ∧ ¬ ok gk) (_ : ∀ W, Kept w W (fun k_ => ok k_ ∨ k_ = mb) → Kd.C k56 W A L.length L) (_ : L.length ≤ c) (_ : impl_compacted.cl k L s n m = some (s', m', r)),
  Calls Try.prog 127 (#[.int .i64 n] ++ #[.pointer (some ⟨gm, 0, none⟩), .pointer (some ⟨gd, 0, none⟩), .pointer (some ⟨gf, 0, none⟩), .pointer (some ⟨gk, 0, none⟩)]) w fun e w' => e = .returned (.int .i64 r) ∧ IsF w' w0.heap.size ok g s' ∧ Mp.Is (Value.int .i64) KeyI (Value.int .i64) w' mb m' ∧ Below w0.heap.size w0 w' ∧ Kept w w' (fun k_ => ok k_ ∨ k_ = mb)
 | 0 => fun _ _ _ _ _ _ _ _ _ _ _ _ _ _ _ _ _ _ _ _ _ _ _ _ _ _ _ _ _ _ _ h => by simp [impl_compacted.cl] at h
 | k + 1 => fun vars L s s' n m m' r A c gm gd gf gk mb ok g w0 w hB hgd hgm hgf hgk hI hM hmb hf hn4 hC hc h => by
  show Calls Try.prog 127 #[.int .i64 n, .pointer (some ⟨gm, 0, none⟩), .pointer (some ⟨gd, 0, none⟩), .pointer (some ⟨gf, 0, none⟩), .pointer (some ⟨gk, 0, none⟩)] w _
  have IH := Aside0.mk (impl_compacted.cl_calls eg k)
  have hu48 := Try.underlying48
  have hu56 := Try.underlying56
  have HI := Aside0.mk hI
  have HB := Aside0.mk hB
  have HM := Aside0.mk hM
  have MB := Aside0.mk hmb
  have HF := Aside0.mk hf
  have HC := Aside0.mk hC
  have HL := Aside0.mk hc
  have BGD := Aside0.mk hgd
  have BGM := Aside0.mk hgm
  have BGF := Aside0.mk hgf
  have BGK := Aside0.mk hgk
  have NE : Aside0 (gd ≠ mb ∧ gm ≠ mb ∧ gf ≠ mb ∧ gk ≠ mb) := ⟨(hM.ne_blk hgd).symm, (hM.ne_blk hgm).symm, (hM.ne_blk hgf).symm, (hM.ne_blk hgk).symm⟩
  have NS : Aside0 (¬ (ok gd ∨ gd = mb) ∧ ¬ (ok gm ∨ gm = mb) ∧ ¬ (ok gf ∨ gf = mb) ∧ ¬ (ok gk ∨ gk = mb)) := ⟨fun h_ => h_.elim hn4.1 NE.out.1, fun h_ => h_.elim hn4.2.1 NE.out.2.1, fun h_ => h_.elim hn4.2.2.1 NE.out.2.2.1, fun h_ => h_.elim hn4.2.2.2 NE.out.2.2.2⟩
  have N4 := Aside0.mk hn4
  have d1 : w.cell? ⟨gd, 1, none⟩ = some (.slice A L.length c) := (blk_cell hgd 1).trans rfl
  have m0_ : w.cell? ⟨gm, 0, none⟩ = some (.map (some mb)) := (blk_cell hgm 0).trans rfl
  rw [impl_compacted.cl] at h
  clear hB hgd hgm hgf hgk hI hM hmb hf hn4 hC hc
  by_cases c3 : KeyI n
  ·rw [if_pos c3] at h
   have C3 := Aside0.mk c3
   clear c3
   cases hs : m n with
   | some q =>
    rw [hs] at h
    simp only [Option.some.injEq, Prod.mk.injEq] at h
    obtain ⟨rfl, rfl, rfl⟩ := h
    go_enter Try.func127, Try.ntmps127
    go_wp2_with ((with_reducible refine gate_ (op := .lookup 135 (.tmp 13) (.tmp 14) true) rfl ?_); refine Mp.look_some rfl (.tmp 13) (.tmp 14) rfl rfl HM.out keyInt Try.underlying135 zero_int n rfl C3.out hs ?_)
    go_ret
    exact ⟨rfl, HI.out, HM.out, HB.out, Kept.refl _ _⟩
   | none =>
    rw [hs] at h
    simp only at h
    obtain ⟨j, hj⟩ : ∃ j, wrap64 (n - 2) = j := ⟨_, rfl⟩
    have hjw : (IntKind.i64.wrap (n - 2)) = j := (i64_w _).trans hj
    rw [hj] at h
    by_cases c4 : 0 ≤ j
    ·rw [if_pos c4] at h
     by_cases c5 : j < (L.length : Int)
     ·rw [if_pos c5] at h
      obtain ⟨ad, rfl, hx0, hx1, hx2⟩ := at_T56 (HC.out w (Kept.refl _ _)) j c4 c5
      have c4b : decide (0 ≤ j) = true := decide_eq_true c4
      have c5b : decide (j < (L.length : Int)) = true := decide_eq_true c5
      generalize rd_T56 L j = x at h hx0 hx1 hx2
      obtain ⟨⟨s1, m1, lo⟩, hp1, h2⟩ := Option.bind_eq_some_iff.mp h
      obtain ⟨⟨s2, m2, hi⟩, hp2, h3⟩ := Option.bind_eq_some_iff.mp h2
      obtain ⟨⟨s3, r3⟩, hp3, h4⟩ := Option.bind_eq_some_iff.mp h3
      simp only [Option.some.injEq, Prod.mk.injEq] at h4 hp2 hp3
      obtain ⟨rfl, hm3, rfl⟩ := h4
      have P1 := Aside0.mk hp1
      have P2 := Aside0.mk hp2
      have P3 := Aside0.mk hp3
      have M3 := Aside0.mk hm3
      clear h h2 h3 hp1 hp2 hp3 hm3 hj
      go_enter Try.func127, Try.ntmps127
      go_upto_region 5 with (first | ((with_reducible refine gate_ (op := .lookup 135 (.tmp 13) (.tmp 14) true) rfl ?_); refine Mp.look_none rfl (.tmp 13) (.tmp 14) rfl rfl HM.out keyInt Try.underlying135 zero_int n rfl C3.out hs ?_) | ((with_reducible refine gate_dst (N := 9) rfl ?_); refine box_event ?hg (N := 9) ?hd (cs := #[.int .i64 0, .int .i64 0, .int .i64 0]) (t := 56) ?hr ?_; (case hd => rfl); (case hg => rfl); (case hr => first | (go_simp; done) | (go_simp; rfl)); intro gb hgb w7 hbox hb; have BX0 := Aside0.mk hbox; have HB7 := Aside0.mk hb; have hz0 : w7.cell? ⟨gb, 0, none⟩ = some (.int .i64 0) := (blk_cell BX0.out 0).trans rfl; have hz1 : w7.cell? ⟨gb, 1, none⟩ = some (.int .i64 0) := (blk_cell BX0.out 1).trans rfl; have hz2 : w7.cell? ⟨gb, 2, none⟩ = some (.int .i64 0) := (blk_cell BX0.out 2).trans rfl; have hy0 := blk_frozen BX0.out 0; have hy1 := blk_frozen BX0.out 1; have hy2 := blk_frozen BX0.out 2; have HGB := Aside0.mk (show w.heap.size ≤ gb from Nat.le_of_eq hgb.symm); clear hgb hbox hb))
      have n0_ := Aside0.mk (below_set (below_set (below_set HB7.out HGB.out (j := 0) (v := .int .i64 x.f0)) HGB.out (j := 1) (v := .int .i64 x.f1)) HGB.out (j := 2) (v := .int .i64 x.f2))
      have BX8 := Aside0.mk (blk_put (blk_put (blk_put BX0.out 0 (.int .i64 x.f0) rfl) 1 (.int .i64 x.f1) rfl) 2 (.int .i64 x.f2) rfl)
      generalize (((w7.setCell ⟨gb, 0, none⟩ (.int .i64 x.f0)).setCell ⟨gb, 1, none⟩ (.int .i64 x.f1)).setCell ⟨gb, 2, none⟩ (.int .i64 x.f2)) = w8 at n0_ BX8 ⊢
      have LB8 := blk_lt BX8.out
      have HM8 := Aside0.mk (HM.out.below n0_.out)
      have NG : Aside0 (gb ≠ mb) := ⟨fun e_ => by have := HM.out.lt; have := HGB.out; omega⟩
      have I8 : Aside0 (IsF w8 w0.heap.size (fun k_ => ok k_ ∧ k_ ≠ gb) g s) := ⟨IsF.mono ((HI.out.bound).step (fun k_ hk_ _ => n0_.out.block k_ hk_.2.2)) (fun k_ hk_ => ⟨hk_.1, fun e_ => by have := HGB.out; have := hk_.2.2; omega⟩)⟩
      have BL8 := Aside0.mk (below_then HB.out HB.out.size n0_.out)
      have HF8 : Aside0 (∀ k_, w8.heap.size ≤ k_ → ok k_ ∧ k_ ≠ gb) := ⟨fun k_ h_ => ⟨HF.out k_ (Nat.le_trans n0_.out.size h_), fun e_ => by omega⟩⟩
      have K8 := Aside0.mk (Kept.of_below n0_.out (fun k_ => ok k_ ∨ k_ = mb))
      have MB8 : Aside0 (w0.heap.size ≤ mb ∧ ¬ (ok mb ∧ mb ≠ gb)) := ⟨MB.out.1, fun h_ => MB.out.2 h_.1⟩
      have N48 : Aside0 (¬ (ok gd ∧ gd ≠ gb) ∧ ¬ (ok gm ∧ gm ≠ gb) ∧ ¬ (ok gf ∧ gf ≠ gb) ∧ ¬ (ok gk ∧ gk ≠ gb)) := ⟨fun h_ => N4.out.1 h_.1, fun h_ => N4.out.2.1 h_.1, fun h_ => N4.out.2.2.1 h_.1, fun h_ => N4.out.2.2.2 h_.1⟩
      have SS : Aside0 (∀ k_, ((ok k_ ∧ k_ ≠ gb) ∨ k_ = mb) → (ok k_ ∨ k_ = mb) ∨ w.heap.size ≤ k_) := ⟨fun k_ h_ => .inl (h_.imp And.left id)⟩
      have NB8 : Aside0 (¬ ((ok gb ∧ gb ≠ gb) ∨ gb = mb)) := ⟨fun h_ => h_.elim (fun h_ => h_.2 rfl) NG.out⟩
      have BM8 := Aside0.mk (blk_kept BGM.out K8.out NS.out.2.1)
      have BD8 := Aside0.mk (blk_kept BGD.out K8.out NS.out.1)
      have BF8 := Aside0.mk (blk_kept BGF.out K8.out NS.out.2.2.1)
      have BK8 := Aside0.mk (blk_kept BGK.out K8.out NS.out.2.2.2)
      have f80 : w8.cell? ⟨gf, 0, none⟩ = some (.func (.func 127) #[] #[.pointer (some ⟨gm, 0, none⟩), .pointer (some ⟨gd, 0, none⟩), .pointer (some ⟨gf, 0, none⟩), .pointer (some ⟨gk, 0, none⟩)]) := (blk_cell BF8.out 0).trans rfl
      have x81 : w8.cell? ⟨gb, 1, none⟩ = some (.int .i64 x.f1) := (blk_cell BX8.out 1).trans rfl
      clear n0_ LB8 hz0 hz1 hz2 hy0 hy1 hy2 BX0 HB7 hx0 hx1 hx2 d1 m0_
      go_upto_region 6 with (go_at_fn 127; have QC_ := (fun W_ hk_ => HC.out W_ (K8.out.then_ hk_ SS.out)); refine (IH.out vars L s s1 x.f1 m m1 lo (some ad) c gm gd gf gk mb (fun k_ => ok k_ ∧ k_ ≠ gb) g w0 _ BL8.out BD8.out BM8.out BF8.out BK8.out I8.out HM8.out MB8.out HF8.out N48.out QC_ HL.out P1.out).mono ?_; rintro e w9 ⟨rfl, hi_, hm_, hb_, hk_⟩; have I9 := Aside0.mk hi_; have M9 := Aside0.mk hm_; have BL9 := Aside0.mk hb_; have BX9 := Aside0.mk (blk_kept BX8.out hk_ NB8.out); have BM9 := Aside0.mk (blk_kept BM8.out hk_ (fun h_ => NS.out.2.1 (h_.imp And.left id))); have BD9 := Aside0.mk (blk_kept BD8.out hk_ (fun h_ => NS.out.1 (h_.imp And.left id))); have BF9 := Aside0.mk (blk_kept BF8.out hk_ (fun h_ => NS.out.2.2.1 (h_.imp And.left id))); have BK9 := Aside0.mk (blk_kept BK8.out hk_ (fun h_ => NS.out.2.2.2 (h_.imp And.left id))); have K9 := Aside0.mk (K8.out.then_ hk_ SS.out); have HF9 : Aside0 (∀ k_, w9.heap.size ≤ k_ → ok k_ ∧ k_ ≠ gb) := ⟨fun k_ h_ => HF8.out k_ (Nat.le_trans hk_.1 h_)⟩; have f90 : w9.cell? ⟨gf, 0, none⟩ = some (.func (.func 127) #[] #[.pointer (some ⟨gm, 0, none⟩), .pointer (some ⟨gd, 0, none⟩), .pointer (some ⟨gf, 0, none⟩), .pointer (some ⟨gk, 0, none⟩)]) := (blk_cell BF9.out 0).trans rfl; have x92 : w9.cell? ⟨gb, 2, none⟩ = some (.int .i64 x.f2) := (blk_cell BX9.out 2).trans rfl; clear hi_ hm_ hb_ hk_ QC_)
      go_upto_region 7 with (go_at_fn 127; have QC_ := (fun W_ hk_ => HC.out W_ (K9.out.then_ hk_ SS.out)); refine (IH.out vars L s1 s2 x.f2 m1 m2 hi (some ad) c gm gd gf gk mb (fun k_ => ok k_ ∧ k_ ≠ gb) g w0 _ BL9.out BD9.out BM9.out BF9.out BK9.out I9.out M9.out MB8.out HF9.out N48.out QC_ HL.out P2.out).mono ?_; rintro e w10 ⟨rfl, hi_, hm_, hb_, hk_⟩; have I10 := Aside0.mk hi_; have M10 := Aside0.mk hm_; have BL10 := Aside0.mk hb_; have BX10 := Aside0.mk (blk_kept BX9.out hk_ NB8.out); have BM10 := Aside0.mk (blk_kept BM9.out hk_ (fun h_ => NS.out.2.1 (h_.imp And.left id))); have BD10 := Aside0.mk (blk_kept BD9.out hk_ (fun h_ => NS.out.1 (h_.imp And.left id))); have BF10 := Aside0.mk (blk_kept BF9.out hk_ (fun h_ => NS.out.2.2.1 (h_.imp And.left id))); have BK10 := Aside0.mk (blk_kept BK9.out hk_ (fun h_ => NS.out.2.2.2 (h_.imp And.left id))); have K10 := Aside0.mk (K9.out.then_ hk_ SS.out); have HF10 : Aside0 (∀ k_, w10.heap.size ≤ k_ → ok k_ ∧ k_ ≠ gb) := ⟨fun k_ h_ => HF9.out k_ (Nat.le_trans hk_.1 h_)⟩; have f100 : w10.cell? ⟨gf, 0, none⟩ = some (.func (.func 127) #[] #[.pointer (some ⟨gm, 0, none⟩), .pointer (some ⟨gd, 0, none⟩), .pointer (some ⟨gf, 0, none⟩), .pointer (some ⟨gk, 0, none⟩)]) := (blk_cell BF10.out 0).trans rfl; have x102 : w10.cell? ⟨gb, 2, none⟩ = some (.int .i64 x.f2) := (blk_cell BX10.out 2).trans rfl; clear hi_ hm_ hb_ hk_ QC_)
      refine start_ (n := 9) (S := fun w' => True) (ds := []) (Pt.bm 9 0) (by kernel_rfl) rfl rfl trivial (fun hHeld => ?_)
      refine with_tabW impl_compacted.tab7 impl_compacted.bits7 (fun HT_ HW_ => ?_)
      have n1_ := Aside0.mk (blk_drew BX10.out)
      have n2_ := Aside0.mk K10.out.drew
      have n3_ := Aside0.mk (below_drew BL10.out)
      have n4_ := Aside0.mk M10.out.drew
      have n5_ := Aside0.mk (I10.out.below (below_drew (Below.refl _ _)))
      have n6_ : Aside0 (∀ k_, w10.drew.heap.size ≤ k_ → ok k_ ∧ k_ ≠ gb) := ⟨fun k_ h_ => HF10.out k_ h_⟩
      clear hHeld BX10 K10 BL10 M10 I10 HF10
      generalize w10.drew = wS at n1_ n2_ n3_ n4_ n5_ n6_ ⊢
      have HFS : Aside0 (∀ W : World, wS.heap.size ≤ W.heap.size → ∀ k_, W.heap.size ≤ k_ → ok k_ ∧ k_ ≠ gb) := ⟨fun W hle k_ h_ => n6_.out k_ (Nat.le_trans hle h_)⟩
      refine Pt.pu 1 (some 35) (Pt.bm 9 2) (by kernel_rfl) ?_
      refine Pt.pu 3 (some 37) (v := .pointer (some ⟨gb, 0, none⟩)) (Pt.bm 9 10) (by kernel_rfl) ?_ (hy := by refine Or.inl ⟨by rfl, ?_⟩; intro w'; first | (go_simp; done) | (go_simp; rfl))
      refine Pt.pu 5 (some 39) (Pt.bm 9 42) (by kernel_rfl) ?_
      refine Pt.pu 6 (some 40) (Pt.bm 9 106) (by kernel_rfl) ?_
      refine inv_at [0, 2, 4, 7, 8] (fun a0_ b_ a' w' => a' = putSel a0_ b_ [(0, 34, .map (some mb)), (2, 36, .pointer (some ⟨g, 0, none⟩)), (4, 38, .int .i64 x.f0), (7, 41, .int .i64 r3)] ∧ w'.heap[gb]? = some (.cells #[.int .i64 x.f0, .int .i64 x.f1, .int .i64 x.f2] 56 (0, 0)) ∧ Kept w w' (fun k_ => ok k_ ∨ k_ = mb) ∧ Below w0.heap.size w0 w' ∧ wS.heap.size ≤ w'.heap.size ∧ (b_ 7 = false → IsF w' w0.heap.size (fun k_ => ok k_ ∧ k_ ≠ gb) g s2) ∧ (b_ 7 = true → IsF w' w0.heap.size (fun k_ => ok k_ ∧ k_ ≠ gb) g s3) ∧ (b_ 8 = false → Mp.Is (Value.int .i64) KeyI (Value.int .i64) w' mb m2) ∧ (b_ 8 = true → Mp.Is (Value.int .i64) KeyI (Value.int .i64) w' mb m')) HT_.out HW_.out (by kernel_rfl) (by kernel_rfl) ?_ ?_ ?_
      ·exact ⟨by simp only [putSel, Bool.false_eq_true, if_false], n1_.out, n2_.out, n3_.out, Nat.le_refl _, fun _ => n5_.out, fun h_ => absurd h_ (by decide), fun _ => n4_.out, fun h_ => absurd h_ (by decide)⟩
      ·clear n1_ n2_ n3_ n4_ n5_ n6_
       refine steps_cons ?_ ?_
       ·rintro b_ a' w' ⟨ha, Q_X, Q_K, Q_B, Q_W, Q_I, Q_J, Q_M, Q_N⟩ hb_ hon hoff
        refine ⟨_, rfl, fun K hK => ?_⟩
        have e1 : a'.tmps[1]? = some (.pointer (some ⟨gm, 0, none⟩)) := by rw [ha]; exact (putSel_off rfl).trans rfl
        replace ha := Aside0.mk ha
        have hc0_ : w'.cell? ⟨gm, 0, none⟩ = some (.map (some mb)) := (blk_cell (blk_kept BGM.out Q_K NS.out.2.1) 0).trans rfl
        refine value_ (w1 := w') (v := .map (some mb)) (by rfl) rfl ?_ ?_
        ·go_simp
         (try simp only [i64_w])
         try rfl
        exact hK.out _ _ ⟨(by rw [ha.out]; exact putSel_upk 0 hb_ rfl rfl rfl), Q_X, Q_K, Q_B, Q_W, Q_I, Q_J, Q_M, Q_N⟩
       refine steps_cons ?_ ?_
       ·rintro b_ a' w' ⟨ha, Q_X, Q_K, Q_B, Q_W, Q_I, Q_J, Q_M, Q_N⟩ hb_ hon hoff
        refine ⟨_, rfl, fun K hK => ?_⟩
        have e4 : a'.tmps[4]? = some (.pointer (some ⟨gk, 0, none⟩)) := by rw [ha]; exact (putSel_off rfl).trans rfl
        replace ha := Aside0.mk ha
        have hc0_ : w'.cell? ⟨gk, 0, none⟩ = some (.pointer (some ⟨g, 0, none⟩)) := (blk_cell (blk_kept BGK.out Q_K NS.out.2.2.2) 0).trans rfl
        refine value_ (w1 := w') (v := .pointer (some ⟨g, 0, none⟩)) (by rfl) rfl ?_ ?_
        ·go_simp
         (try simp only [i64_w])
         try rfl
        exact hK.out _ _ ⟨(by rw [ha.out]; exact putSel_upk 1 hb_ rfl rfl rfl), Q_X, Q_K, Q_B, Q_W, Q_I, Q_J, Q_M, Q_N⟩
       refine steps_cons ?_ ?_
       ·rintro b_ a' w' ⟨ha, Q_X, Q_K, Q_B, Q_W, Q_I, Q_J, Q_M, Q_N⟩ hb_ hon hoff
        refine ⟨_, rfl, fun K hK => ?_⟩
        have e37 : a'.tmps[37]? = some (.pointer (some ⟨gb, 0, none⟩)) := by rw [ha]; exact (putSel_off rfl).trans rfl
        replace ha := Aside0.mk ha
        have hc0_ : w'.cell? ⟨gb, 0, none⟩ = some (.int .i64 x.f0) := (blk_cell Q_X 0).trans rfl
        refine value_ (w1 := w') (v := .int .i64 x.f0) (by rfl) rfl ?_ ?_
        ·go_simp
         (try simp only [i64_w])
         try rfl
        exact hK.out _ _ ⟨(by rw [ha.out]; exact putSel_upk 2 hb_ rfl rfl rfl), Q_X, Q_K, Q_B, Q_W, Q_I, Q_J, Q_M, Q_N⟩
       refine steps_cons ?_ ?_
       ·rintro b_ a' w' ⟨ha, Q_X, Q_K, Q_B, Q_W, Q_I, Q_J, Q_M, Q_N⟩ hb_ hon hoff
        refine ⟨_, rfl, fun K hK => ?_⟩
        have e36 : a'.tmps[36]? = some (.pointer (some ⟨g, 0, none⟩)) := by rw [ha]; exact putSel_on (e := (2, 36, .pointer (some ⟨g, 0, none⟩))) 1 rfl rfl (hon 2 (by kernel_rfl)) rfl
        have e38 : a'.tmps[38]? = some (.int .i64 x.f0) := by rw [ha]; exact putSel_on (e := (4, 38, .int .i64 x.f0)) 2 rfl rfl (hon 4 (by kernel_rfl)) rfl
        have e39 : a'.tmps[39]? = some (.int .i64 lo) := by rw [ha]; exact (putSel_off rfl).trans rfl
        have e40 : a'.tmps[40]? = some (.int .i64 hi) := by rw [ha]; exact (putSel_off rfl).trans rfl
        replace ha := Aside0.mk ha
        refine goes_ Try.func128 (by kernel_rfl) rfl #[.pointer (some ⟨g, 0, none⟩), .int .i64 x.f0, .int .i64 lo, .int .i64 hi] (by rfl) rfl rfl (by first | (simp only [List.map_toArray, List.map_cons, List.map_nil, Act.eval, Array.getD_eq_getD_getElem?, Option.getD_some, e36, e38, e39, e40]; done) | (simp only [List.map_toArray, List.map_cons, List.map_nil, Act.eval, Array.getD_eq_getD_getElem?, Option.getD_some, e36, e38, e39, e40]; rfl)) ?_
        have QF_ := HFS.out w' Q_W
        with_reducible refine (impl_forking_fork.calls s2 s3 x.f0 lo hi r3 (fun k_ => ok k_ ∧ k_ ≠ gb) g w0 _ Q_B (Q_I hb_) QF_ P3.out).mono ?_
        rintro e w11 ⟨rfl, q1_, q2_, q3_⟩
        have NM_ : ¬ (ok mb ∧ mb ≠ gb) := MB8.out.2
        exact ⟨_, rfl, hK.out _ _ ⟨(by rw [ha.out]; exact putSel_upk 3 hb_ rfl rfl rfl), blk_kept Q_X q3_ (fun h_ => h_.2 rfl), Q_K.then_ q3_ (fun _ h_ => .inl (.inl h_.1)), q2_, Nat.le_trans Q_W q3_.1, fun h_ => absurd ((up_self b_ 7).symm.trans h_) (by decide), fun _ => q1_, fun h_ => (Q_M h_).move (q3_.2 mb (Q_M h_).lt NM_), fun h_ => absurd ((hoff 8 (by kernel_rfl)).symm.trans h_) (by decide)⟩⟩
       refine steps_cons ?_ ?_
       ·rintro b_ a' w' ⟨ha, Q_X, Q_K, Q_B, Q_W, Q_I, Q_J, Q_M, Q_N⟩ hb_ hon hoff
        refine ⟨_, rfl, fun K hK => ?_⟩
        have e34 : a'.tmps[34]? = some (.map (some mb)) := by rw [ha]; exact putSel_on (e := (0, 34, .map (some mb))) 0 rfl rfl (hon 0 (by kernel_rfl)) rfl
        have e41 : a'.tmps[41]? = some (.int .i64 r3) := by rw [ha]; exact putSel_on (e := (7, 41, .int .i64 r3)) 3 rfl rfl (hon 7 (by kernel_rfl)) rfl
        have e35 : a'.tmps[35]? = some (.int .i64 n) := by rw [ha]; exact (putSel_off rfl).trans rfl
        have h7 := hon 7 (by kernel_rfl)
        replace ha := Aside0.mk ha
        obtain ⟨w1, hrun, r1_, r2_, r3_⟩ := (Q_M hb_).store (P := Try.prog) keyInt Try.underlying135 C3.out r3
        rw [M3.out] at r1_
        refine skip_ (w1 := w1) (by rfl) rfl ?_ ?_
        ·have q1_ : a'.eval (.tmp 34) = .map (some mb) := by simp only [Act.eval, Array.getD_eq_getD_getElem?, e34]; rfl
         have q2_ : a'.eval (.tmp 35) = .int .i64 n := by simp only [Act.eval, Array.getD_eq_getD_getElem?, e35]; rfl
         have q3_ : a'.eval (.tmp 41) = .int .i64 r3 := by simp only [Act.eval, Array.getD_eq_getD_getElem?, e41]; rfl
         simp [execOp, q1_, q2_, q3_, hrun, Result.andThen]
        exact hK.out _ _ ⟨(by rw [ha.out]; exact putSel_none (v := undef) rfl), (r2_.block gb (blk_lt Q_X) (fun e_ => NG.out (by cases e_; rfl))).trans Q_X, Kept.of_grown r2_ Q_K (fun k_ e_ => by cases e_; exact .inl (.inr rfl)), Q_B.grown r2_ Q_B.size (fun k_ e_ => by cases e_; exact MB.out.1), (by rw [r3_]; exact Q_W), fun h_ => absurd (h7.symm.trans h_) (by decide), fun h_ => (Q_J h7).step (fun k_ hk_ hlt_ => r2_.block k_ hlt_ (fun e_ => MB8.out.2 (by cases e_; exact hk_))), fun h_ => absurd ((up_self b_ 8).symm.trans h_) (by decide), fun _ => r1_⟩
       exact steps_nil
      rintro b_ a' w9 hall ⟨ha, Q_X, Q_K, Q_B, Q_W, Q_I, Q_J, Q_M, Q_N⟩
      have hb0_ := hall 0 (by kernel_rfl)
      have hb2_ := hall 2 (by kernel_rfl)
      have hb4_ := hall 4 (by kernel_rfl)
      have hb7_ := hall 7 (by kernel_rfl)
      have hb8_ := hall 8 (by kernel_rfl)
      subst ha
      simp only [putSel, hb0_, hb2_, hb4_, hb7_, if_true, Act.put, List.setIfInBounds_toArray, List.set_cons_zero, List.set_cons_succ]
      have M9 := Aside0.mk (Q_N hb8_)
      have I9 := Aside0.mk (Q_J hb7_)
      have K9 := Aside0.mk Q_K
      have B9 := Aside0.mk Q_B
      have m90 : w9.cell? ⟨gm, 0, none⟩ = some (.map (some mb)) := (blk_cell (blk_kept BGM.out K9.out NS.out.2.1) 0).trans rfl
      have s9 : m' n = some r3 := by rw [← M3.out]; simp
      clear hall hb0_ hb2_ hb4_ hb7_ hb8_ Q_X Q_K Q_B Q_W Q_I Q_J Q_M Q_N n1_ n2_ n3_ n4_ n5_ n6_ f80 x81
      go_wp2_with ((with_reducible refine gate_ (op := .lookup 135 (.tmp 42) (.tmp 43) false) rfl ?_); refine Mp.at_some rfl (.tmp 42) (.tmp 43) rfl rfl M9.out keyInt Try.underlying135 zero_int n rfl C3.out s9 ?_)
      go_ret
      exact ⟨rfl, I9.out.mono (fun _ h_ => h_.1), M9.out, B9.out, K9.out⟩
     ·rw [if_neg c5] at h
      cases h
    ·rw [if_neg c4] at h
     cases h
  ·rw [if_neg c3] at h
   cases h
set_option maxHeartbeats 16000000 in
set_option maxRecDepth 100000 in
theorem impl_compacted.calls (k : Nat) (a0_0 : Int) (A0_1 : Option Addr) (c0_1 : Nat) (l0_1 : List S56) (a1 : Int) (r1 : Int) (r2 : List S56) (r3 : Int) (w : World) (hr : Kd.C k56 w A0_1 l0_1.length l0_1) (hc : l0_1.length ≤ c0_1) (h : impl_compacted.f k a0_0 l0_1 a1 = some (r1, r2, r3)) :
  Calls Try.prog 92 #[.agg #[.int .i64 a0_0, .slice A0_1 l0_1.length c0_1], .int .i64 a1] w fun e w' => ∃ v1_ : Value, e = .returned (.tuple #[.agg #[.int .i64 r1, v1_], .int .i64 r3]) ∧ Kd.R k56 56 w' w.heap.size (fun _ => True) v1_ r2 ∧ Below w.heap.size w w' := by
 have eg : ∀ args w, (callFunc 127 args).run Try.prog w = .ok (.enter 127 args) w := enters_of Try.func127 (by kernel_rfl) rfl
 have hu48 := Try.underlying48
 have HR := Aside0.mk hr
 have HC := Aside0.mk hc
 obtain ⟨s, hs, h2⟩ := Option.bind_eq_some_iff.mp h
 obtain ⟨⟨s2, m2, r⟩, hp, hd⟩ := Option.bind_eq_some_iff.mp h2
 have TS := Aside0.mk hs
 have P1 := Aside0.mk hp
 have TD := Aside0.mk hd
 clear hr hc h h2 hs hp hd
 go_enter Try.func92, Try.ntmps92
 go_upto_region 5 with (first | ((with_reducible refine gate_dst (N := 2) rfl ?_); refine box_event ?hg (N := 2) ?hd (cs := #[.int .i64 a0_0, .slice A0_1 l0_1.length c0_1]) (t := 48) ?hr ?_; (case hd => rfl); (case hg => rfl); (case hr => first | (go_simp; done) | (go_simp; rfl)); intro gd hg_ w1 hbox hb; have BD1 := Aside0.mk hbox; have HB1 := Aside0.mk hb; clear hg_ hbox hb) | ((with_reducible refine gate_dst (N := 4) rfl ?_); refine box_event ?hg (N := 4) ?hd (cs := #[.int .i64 0, .slice none 0 0]) (t := 48) ?hr ?_; (case hd => rfl); (case hg => rfl); (case hr => first | (go_simp; done) | (go_simp; rfl)); intro gr hg_ w2 hbox hb; have GR := Aside0.mk (show w.heap.size ≤ gr ∧ gr ≠ gd from ⟨by rw [hg_]; exact HB1.out.size, fun e_ => by have := blk_lt BD1.out; omega⟩); have BR2 := Aside0.mk hbox; have BD2 := Aside0.mk (blk_below BD1.out hb); have HB2 := Aside0.mk (below_step HB1.out hb); have d20 : w2.cell? ⟨gd, 0, none⟩ = some (.int .i64 a0_0) := (blk_cell BD2.out 0).trans rfl; clear hg_ hbox hb) | (go_at_call 117; have FC_ : Calls Try.prog 117 #[.agg #[.int .i64 a0_0, .slice none 0 0]] w2 (fun e w' => ∃ g, e = .returned (.pointer (some ⟨g, 0, none⟩)) ∧ IsF w' w2.heap.size (fun k => w2.heap.size ≤ k) g s ∧ Below w2.heap.size w2 w') := impl_forkingOf.calls a0_0 none 0 [] s w2 (Kd.C_nil _ _) (Nat.le_refl _) TS.out; (with_reducible refine FC_.mono ?_); rintro e w3 ⟨g, rfl, hi, hb⟩; have I3 := Aside0.mk hi.bound; have BN3 := Aside0.mk hb; have HB3 := Aside0.mk (below_step HB2.out hb); have BD3 := Aside0.mk (blk_below BD2.out hb); have BR3 := Aside0.mk (blk_below BR2.out hb); clear hi hb FC_) | ((with_reducible refine gate_dst (N := 6) rfl ?_); refine box_event ?hg (N := 6) ?hd (cs := #[.pointer none]) (t := 126) ?hr ?_; (case hd => rfl); (case hg => rfl); (case hr => first | (go_simp; done) | (go_simp; rfl)); intro gk hg_ w4 hbox hb; have GK := Aside0.mk (show w3.heap.size ≤ gk from Nat.le_of_eq hg_.symm); have BK4 := Aside0.mk hbox; have BW4 := Aside0.mk hb; have k40 : w4.cell? ⟨gk, 0, none⟩ = some (.pointer none) := (blk_cell BK4.out 0).trans rfl; have y40 := blk_frozen BK4.out 0; clear hg_ hbox hb) | ((with_reducible refine gate_ (op := .makeMap 135 none) rfl ?_); refine Mp.made_event rfl (N := 13) rfl 135 rfl (Value.int .i64) KeyI (Value.int .i64) ?_; intro mb hmb w5 hM_ hb; have BS_ := below_set BW4.out GK.out (j := 0) (v := (.pointer (some ⟨g, 0, none⟩))); have PK_ := blk_put BK4.out 0 (.pointer (some ⟨g, 0, none⟩)) rfl; have GMB := Aside0.mk (show w3.heap.size ≤ mb ∧ gk ≠ mb from ⟨by rw [hmb]; exact BS_.size, by rw [hmb]; exact Nat.ne_of_lt (blk_lt PK_)⟩); have HM5 := Aside0.mk hM_; have BW5 := Aside0.mk (below_step BS_ hb); have BK5 := Aside0.mk (blk_below PK_ hb); clear hmb hM_ hb BS_ PK_) | ((with_reducible refine gate_ (op := .insert 135 (.tmp 13) (.const (.int .i64 0)) (.const (.int .i64 0))) rfl ?_); refine Mq.insert rfl (.tmp 13) (.const (.int .i64 0)) (.const (.int .i64 0)) rfl rfl HM5.out keyInt Try.underlying135 (0 : Int) rfl ⟨by decide, by decide⟩ (0 : Int) rfl ?_; intro w6 hm_ hg_ hz_; have HM6 := Aside0.mk hm_; have BW6 := Aside0.mk (BW5.out.grown hg_ BW5.out.size (fun k_ e_ => by cases e_; exact GMB.out.1)); have BK6 := Aside0.mk ((hg_.block gk (blk_lt BK5.out) (fun e_ => GMB.out.2 (by cases e_; rfl))).trans BK5.out); clear hm_ hg_ hz_) | ((with_reducible refine gate_ (op := .insert 135 (.tmp 13) (.const (.int .i64 1)) (.const (.int .i64 1))) rfl ?_); refine Mq.insert rfl (.tmp 13) (.const (.int .i64 1)) (.const (.int .i64 1)) rfl rfl HM6.out keyInt Try.underlying135 (1 : Int) rfl ⟨by decide, by decide⟩ (1 : Int) rfl ?_; intro w7 hm_ hg_ hz_; have HM7 := Aside0.mk hm_; have BW7 := Aside0.mk (BW6.out.grown hg_ BW6.out.size (fun k_ e_ => by cases e_; exact GMB.out.1)); have BK7 := Aside0.mk ((hg_.block gk (blk_lt BK6.out) (fun e_ => GMB.out.2 (by cases e_; rfl))).trans BK6.out); clear hm_ hg_ hz_) | ((with_reducible refine gate_dst (N := 7) rfl ?_); refine box_event ?hg (N := 7) ?hd (cs := #[.map none]) (t := 135) ?hr ?_; (case hd => rfl); (case hg => rfl); (case hr => first | (go_simp; done) | (go_simp; rfl)); intro gm hg_ w8 hbox hb; have GM := Aside0.mk (show w3.heap.size ≤ gm ∧ gm ≠ mb ∧ gm ≠ gk from ⟨by rw [hg_]; exact BW7.out.size, fun e_ => by have := HM7.out.lt; omega, fun e_ => by have := blk_lt BK7.out; omega⟩); have BM8 := Aside0.mk hbox; have BW8 := Aside0.mk (below_step BW7.out hb); have BK8 := Aside0.mk (blk_below BK7.out hb); have HM8 := Aside0.mk (HM7.out.below hb); have k80 : w8.cell? ⟨gm, 0, none⟩ = some (.map none) := (blk_cell BM8.out 0).trans rfl; have y80 := blk_frozen BM8.out 0; clear hg_ hbox hb) | ((with_reducible refine gate_dst (N := 8) rfl ?_); refine box_event ?hg (N := 8) ?hd (cs := #[.nilFunc]) (t := 93) ?hr ?_; (case hd => rfl); (case hg => rfl); (case hr => first | (go_simp; done) | (go_simp; rfl)); intro gf hg_ w9 hbox hb; have BS_ := below_set BW8.out GM.out.1 (j := 0) (v := (.map (some mb))); have PM_ := blk_put BM8.out 0 (.map (some mb)) rfl; have PK_ := blk_far (p := ⟨gm, 0, none⟩) BK8.out GM.out.2.2.symm (.map (some mb)); have PH_ := HM8.out.far (p := ⟨gm, 0, none⟩) GM.out.2.1.symm (.map (some mb)); have l1_ := blk_lt PM_; have l2_ := blk_lt PK_; have l3_ := PH_.lt; have GF := Aside0.mk (show w3.heap.size ≤ gf ∧ gf ≠ mb ∧ gf ≠ gk ∧ gf ≠ gm from ⟨by rw [hg_]; exact BS_.size, by rw [hg_]; exact Nat.ne_of_gt l3_, by rw [hg_]; exact Nat.ne_of_gt l2_, by rw [hg_]; exact Nat.ne_of_gt l1_⟩); have BF9 := Aside0.mk hbox; have BW9 := Aside0.mk (below_step BS_ hb); have BK9 := Aside0.mk (blk_below PK_ hb); have BM9 := Aside0.mk (blk_below PM_ hb); have HM9 := Aside0.mk (PH_.below hb); have k90 : w9.cell? ⟨gf, 0, none⟩ = some .nilFunc := (blk_cell BF9.out 0).trans rfl; have y90 := blk_frozen BF9.out 0; clear hg_ hbox hb BS_ PM_ PK_ PH_ l1_ l2_ l3_))
 have n0_ := Aside0.mk (below_set BW9.out GF.out.1 (j := 0) (v := .func (.func 127) #[] #[.pointer (some ⟨gm, 0, none⟩), .pointer (some ⟨gd, 0, none⟩), .pointer (some ⟨gf, 0, none⟩), .pointer (some ⟨gk, 0, none⟩)]))
 have n1_ := Aside0.mk (blk_far (p := ⟨gf, 0, none⟩) BK9.out GF.out.2.2.1.symm (.func (.func 127) #[] #[.pointer (some ⟨gm, 0, none⟩), .pointer (some ⟨gd, 0, none⟩), .pointer (some ⟨gf, 0, none⟩), .pointer (some ⟨gk, 0, none⟩)]))
 have n2_ := Aside0.mk (blk_far (p := ⟨gf, 0, none⟩) BM9.out GF.out.2.2.2.symm (.func (.func 127) #[] #[.pointer (some ⟨gm, 0, none⟩), .pointer (some ⟨gd, 0, none⟩), .pointer (some ⟨gf, 0, none⟩), .pointer (some ⟨gk, 0, none⟩)]))
 have n3_ := Aside0.mk (blk_put BF9.out 0 (.func (.func 127) #[] #[.pointer (some ⟨gm, 0, none⟩), .pointer (some ⟨gd, 0, none⟩), .pointer (some ⟨gf, 0, none⟩), .pointer (some ⟨gk, 0, none⟩)]) rfl)
 have n4_ := Aside0.mk (HM9.out.far (p := ⟨gf, 0, none⟩) GF.out.2.1.symm (.func (.func 127) #[] #[.pointer (some ⟨gm, 0, none⟩), .pointer (some ⟨gd, 0, none⟩), .pointer (some ⟨gf, 0, none⟩), .pointer (some ⟨gk, 0, none⟩)]))
 generalize (w9.setCell ⟨gf, 0, none⟩ (.func (.func 127) #[] #[.pointer (some ⟨gm, 0, none⟩), .pointer (some ⟨gd, 0, none⟩), .pointer (some ⟨gf, 0, none⟩), .pointer (some ⟨gk, 0, none⟩)])) = w10 at n0_ n1_ n2_ n3_ n4_ ⊢
 clear BW9 BK9 BM9 BF9 HM9 k90 y90 BW8 BK8 BM8 HM8 k80 y80 BW7 BK7 HM7 BW6 BK6 HM6 BW5 BK5 HM5 BW4 BK4 k40 y40 d20
 refine start_ (n := 9) (S := fun w' => True) (ds := []) (Pt.bm 9 0) (by kernel_rfl) rfl rfl trivial (fun hHeld => ?_)
 refine with_tabW impl_compacted.tab5 impl_compacted.bits5 (fun HT_ HW_ => ?_)
 have q0_ := Aside0.mk (below_drew n0_.out)
 have q1_ := Aside0.mk (blk_drew n1_.out)
 have q2_ := Aside0.mk (blk_drew n2_.out)
 have q3_ := Aside0.mk (blk_drew n3_.out)
 have q4_ := Aside0.mk n4_.out.drew
 clear hHeld n0_ n1_ n2_ n3_ n4_
 generalize w10.drew = wS at q0_ q1_ q2_ q3_ q4_ ⊢
 refine Pt.pu 2 (some 18) (Pt.bm 9 4) (by kernel_rfl) ?_
 refine inv_at [0, 1, 3, 4, 5, 6, 7, 8] (fun a0_ b_ a' w' => ∃ (v1 m20 m21 : Value), a' = putSel a0_ b_ [(0, 16, .pointer (some ⟨g, 0, none⟩)), (1, 17, .func (.func 127) #[] #[.pointer (some ⟨gm, 0, none⟩), .pointer (some ⟨gd, 0, none⟩), .pointer (some ⟨gf, 0, none⟩), .pointer (some ⟨gk, 0, none⟩)]), (3, 19, .int .i64 r), (4, 20, m20), (5, 21, m21), (6, 22, .int .i64 r3), (8, 5, .int .i64 r3)] ∧ w'.heap[gk]? = some (.cells #[.pointer (some ⟨g, 0, none⟩)] 126 (0, 0)) ∧ w'.heap[gf]? = some (.cells #[.func (.func 127) #[] #[.pointer (some ⟨gm, 0, none⟩), .pointer (some ⟨gd, 0, none⟩), .pointer (some ⟨gf, 0, none⟩), .pointer (some ⟨gk, 0, none⟩)]] 93 (0, 0)) ∧ (b_ 7 = false → w'.heap[gr]? = some (.cells #[.int .i64 0, .slice none 0 0] 48 (0, 0))) ∧ (b_ 7 = true → w'.heap[gr]? = some (.cells #[.int .i64 r1, v1] 48 (0, 0))) ∧ Below w.heap.size w w' ∧ (b_ 3 = false → Below w3.heap.size w3 w' ∧ Mp.Is (Value.int .i64) KeyI (Value.int .i64) w' mb impl_compacted.m0 ∧ w'.heap[gm]? = some (.cells #[.map (some mb)] 135 (0, 0))) ∧ (b_ 3 = true → IsF w' w2.heap.size (fun k_ => w2.heap.size ≤ k_ ∧ k_ ≠ gk ∧ k_ ≠ mb ∧ k_ ≠ gm ∧ k_ ≠ gf) g s2) ∧ (b_ 4 = true → Kd.R k56 56 w' w.heap.size (fun _ => True) v1 r2) ∧ (b_ 4 = true → m20 = .tuple #[.agg #[.int .i64 r1, v1], .int .i64 r3]) ∧ (b_ 5 = true → m21 = .agg #[.int .i64 r1, v1])) HT_.out HW_.out (by kernel_rfl) (by kernel_rfl) ?_ ?_ ?_
 ·exact ⟨.bool false, .bool false, .bool false, by simp only [putSel, Bool.false_eq_true, if_false], q1_.out, q3_.out, fun _ => blk_below BR3.out q0_.out, fun h_ => absurd h_ (by decide), below_step HB3.out q0_.out, fun _ => ⟨q0_.out, q4_.out, q2_.out⟩, fun h_ => absurd h_ (by decide), fun h_ => absurd h_ (by decide), fun h_ => absurd h_ (by decide), fun h_ => absurd h_ (by decide)⟩
 ·clear q0_ q1_ q2_ q3_ q4_
  refine steps_cons ?_ ?_
  ·rintro b_ a' w' ⟨v1, m20, m21, ha, Q_K, Q_F, Q_Z, Q_G, Q_B, Q_0, Q_I, Q_R, E_4, E_5⟩ hb_ hon hoff
   refine ⟨_, rfl, fun K hK => ?_⟩
   have e6 : a'.tmps[6]? = some (.pointer (some ⟨gk, 0, none⟩)) := by rw [ha]; exact (putSel_off rfl).trans rfl
   replace ha := Aside0.mk ha
   have hc0_ : w'.cell? ⟨gk, 0, none⟩ = some (.pointer (some ⟨g, 0, none⟩)) := (blk_cell Q_K 0).trans rfl
   refine value_ (w1 := w') (v := .pointer (some ⟨g, 0, none⟩)) (by rfl) rfl ?_ ?_
   ·go_simp
    (try simp only [i64_w])
    try rfl
   exact hK.out _ _ ⟨v1, m20, m21, (by rw [ha.out]; exact putSel_upk 0 hb_ rfl rfl rfl), Q_K, Q_F, Q_Z, Q_G, Q_B, Q_0, Q_I, Q_R, E_4, E_5⟩
  refine steps_cons ?_ ?_
  ·rintro b_ a' w' ⟨v1, m20, m21, ha, Q_K, Q_F, Q_Z, Q_G, Q_B, Q_0, Q_I, Q_R, E_4, E_5⟩ hb_ hon hoff
   refine ⟨_, rfl, fun K hK => ?_⟩
   have e8 : a'.tmps[8]? = some (.pointer (some ⟨gf, 0, none⟩)) := by rw [ha]; exact (putSel_off rfl).trans rfl
   replace ha := Aside0.mk ha
   have hc0_ : w'.cell? ⟨gf, 0, none⟩ = some (.func (.func 127) #[] #[.pointer (some ⟨gm, 0, none⟩), .pointer (some ⟨gd, 0, none⟩), .pointer (some ⟨gf, 0, none⟩), .pointer (some ⟨gk, 0, none⟩)]) := (blk_cell Q_F 0).trans rfl
   refine value_ (w1 := w') (v := .func (.func 127) #[] #[.pointer (some ⟨gm, 0, none⟩), .pointer (some ⟨gd, 0, none⟩), .pointer (some ⟨gf, 0, none⟩), .pointer (some ⟨gk, 0, none⟩)]) (by rfl) rfl ?_ ?_
   ·go_simp
    (try simp only [i64_w])
    try rfl
   exact hK.out _ _ ⟨v1, m20, m21, (by rw [ha.out]; exact putSel_upk 1 hb_ rfl rfl rfl), Q_K, Q_F, Q_Z, Q_G, Q_B, Q_0, Q_I, Q_R, E_4, E_5⟩
  refine steps_cons ?_ ?_
  ·rintro b_ a' w' ⟨v1, m20, m21, ha, Q_K, Q_F, Q_Z, Q_G, Q_B, Q_0, Q_I, Q_R, E_4, E_5⟩ hb_ hon hoff
   refine ⟨_, rfl, fun K hK => ?_⟩
   have e17 : a'.tmps[17]? = some (.func (.func 127) #[] #[.pointer (some ⟨gm, 0, none⟩), .pointer (some ⟨gd, 0, none⟩), .pointer (some ⟨gf, 0, none⟩), .pointer (some ⟨gk, 0, none⟩)]) := by rw [ha]; exact putSel_on (e := (1, 17, .func (.func 127) #[] #[.pointer (some ⟨gm, 0, none⟩), .pointer (some ⟨gd, 0, none⟩), .pointer (some ⟨gf, 0, none⟩), .pointer (some ⟨gk, 0, none⟩)])) 1 rfl rfl (hon 1 (by kernel_rfl)) rfl
   have e18 : a'.tmps[18]? = some (.int .i64 a1) := by rw [ha]; exact (putSel_off rfl).trans rfl
   have h7 := hoff 7 (by kernel_rfl)
   have h4 := hoff 4 (by kernel_rfl)
   have h5 := hoff 5 (by kernel_rfl)
   replace ha := Aside0.mk ha
   obtain ⟨W_, M_, G_⟩ := Q_0 hb_
   have l1_ := blk_lt Q_K
   have l2_ := blk_lt Q_F
   have l3_ := M_.lt
   have l4_ := blk_lt G_
   have l5_ := blk_lt BR2.out
   have l6_ := BN3.out.size
   have g1_ := GK.out
   have g2_ := GMB.out
   have g3_ := GM.out
   have g4_ := GF.out
   have l7_ := blk_lt BD2.out
   have l8_ := HB2.out.size
   have I_ : IsF w' w2.heap.size (fun k_ => w2.heap.size ≤ k_ ∧ k_ ≠ gk ∧ k_ ≠ mb ∧ k_ ≠ gm ∧ k_ ≠ gf) g s := IsF.mono (I3.out.below W_) (fun k_ h_ => ⟨h_.1, by have := h_.2.2; omega, by have := h_.2.2; omega, by have := h_.2.2; omega, by have := h_.2.2; omega⟩)
   refine Pv.goesV 127 #[.pointer (some ⟨gm, 0, none⟩), .pointer (some ⟨gd, 0, none⟩), .pointer (some ⟨gf, 0, none⟩), .pointer (some ⟨gk, 0, none⟩)] eg #[.int .i64 a1] (by rfl) rfl rfl (by first | (simp only [Act.eval, Array.getD_eq_getD_getElem?, Option.getD_some, e17]; done) | (simp only [Act.eval, Array.getD_eq_getD_getElem?, Option.getD_some, e17]; rfl)) (by first | (simp only [List.map_toArray, List.map_cons, List.map_nil, Act.eval, Array.getD_eq_getD_getElem?, Option.getD_some, e18]; done) | (simp only [List.map_toArray, List.map_cons, List.map_nil, Act.eval, Array.getD_eq_getD_getElem?, Option.getD_some, e18]; rfl)) ?_
   have QC_ : ∀ W_, Kept w' W_ (fun k_ => (fun k_ => w2.heap.size ≤ k_ ∧ k_ ≠ gk ∧ k_ ≠ mb ∧ k_ ≠ gm ∧ k_ ≠ gf) k_ ∨ k_ = mb) → Kd.C k56 W_ A0_1 l0_1.length l0_1 := fun W_ hk_ => Kd.C_kept_came (d := k56) (Kd.heap_iso _ (Kd.heap_pair (Kd.heap_int .i64) (Kd.heap_pair (Kd.heap_int .i64) (Kd.heap_int .i64)))) HR.out Q_B (fun k_ h_ => h_.elim (fun h_ => Nat.le_trans l8_ h_.1) (fun e_ => by omega)) W_ hk_
   have H1_ : w2.heap.size ≤ mb ∧ ¬ (fun k_ => w2.heap.size ≤ k_ ∧ k_ ≠ gk ∧ k_ ≠ mb ∧ k_ ≠ gm ∧ k_ ≠ gf) mb := ⟨Nat.le_trans l6_ g2_.1, fun h_ => absurd rfl h_.2.2.1⟩
   have H2_ : ∀ k_, w'.heap.size ≤ k_ → (fun k_ => w2.heap.size ≤ k_ ∧ k_ ≠ gk ∧ k_ ≠ mb ∧ k_ ≠ gm ∧ k_ ≠ gf) k_ := fun k_ h_ => ⟨by have := W_.size; omega, by omega, by omega, by omega, by omega⟩
   have H3_ : ¬ (fun k_ => w2.heap.size ≤ k_ ∧ k_ ≠ gk ∧ k_ ≠ mb ∧ k_ ≠ gm ∧ k_ ≠ gf) gd ∧ ¬ (fun k_ => w2.heap.size ≤ k_ ∧ k_ ≠ gk ∧ k_ ≠ mb ∧ k_ ≠ gm ∧ k_ ≠ gf) gm ∧ ¬ (fun k_ => w2.heap.size ≤ k_ ∧ k_ ≠ gk ∧ k_ ≠ mb ∧ k_ ≠ gm ∧ k_ ≠ gf) gf ∧ ¬ (fun k_ => w2.heap.size ≤ k_ ∧ k_ ≠ gk ∧ k_ ≠ mb ∧ k_ ≠ gm ∧ k_ ≠ gf) gk := ⟨fun h_ => by have := h_.1; omega, fun h_ => absurd rfl h_.2.2.2.1, fun h_ => absurd rfl h_.2.2.2.2, fun h_ => absurd rfl h_.2.1⟩
   with_reducible refine (impl_compacted.cl_calls eg k a0_0 l0_1 s s2 a1 impl_compacted.m0 m2 r A0_1 c0_1 gm gd gf gk mb (fun k_ => w2.heap.size ≤ k_ ∧ k_ ≠ gk ∧ k_ ≠ mb ∧ k_ ≠ gm ∧ k_ ≠ gf) g w2 _ (below_then BN3.out BN3.out.size W_) (blk_below BD3.out W_) G_ Q_F Q_K I_ M_ H1_ H2_ H3_ QC_ HC.out P1.out).mono ?_
   rintro e w11 ⟨rfl, q1_, q2_, q3_, q4_⟩
   exact ⟨_, rfl, hK.out _ _ ⟨v1, m20, m21, (by rw [ha.out]; exact putSel_upk 2 hb_ rfl rfl rfl), blk_kept Q_K q4_ (fun h_ => h_.elim (fun h_ => absurd rfl h_.2.1) (fun e_ => by omega)), blk_kept Q_F q4_ (fun h_ => h_.elim (fun h_ => absurd rfl h_.2.2.2.2) (fun e_ => by omega)), fun h_ => blk_kept (Q_Z h_) q4_ (fun h_ => h_.elim (fun h_ => by have := h_.1; omega) (fun e_ => by omega)), fun h_ => absurd (h7.symm.trans h_) (by decide), below_step HB2.out q3_, fun h_ => absurd ((up_self b_ 3).symm.trans h_) (by decide), fun _ => q1_, fun h_ => absurd (h4.symm.trans h_) (by decide), fun h_ => absurd (h4.symm.trans h_) (by decide), fun h_ => absurd (h5.symm.trans h_) (by decide)⟩⟩
  refine steps_cons ?_ ?_
  ·rintro b_ a' w' ⟨v1, m20, m21, ha, Q_K, Q_F, Q_Z, Q_G, Q_B, Q_0, Q_I, Q_R, E_4, E_5⟩ hb_ hon hoff
   refine ⟨_, rfl, fun K hK => ?_⟩
   have e16 : a'.tmps[16]? = some (.pointer (some ⟨g, 0, none⟩)) := by rw [ha]; exact putSel_on (e := (0, 16, .pointer (some ⟨g, 0, none⟩))) 0 rfl rfl (hon 0 (by kernel_rfl)) rfl
   have e19 : a'.tmps[19]? = some (.int .i64 r) := by rw [ha]; exact putSel_on (e := (3, 19, .int .i64 r)) 2 rfl rfl (hon 3 (by kernel_rfl)) rfl
   have h3 := hon 3 (by kernel_rfl)
   have h7 := hoff 7 (by kernel_rfl)
   have h5 := hoff 5 (by kernel_rfl)
   replace ha := Aside0.mk ha
   refine goes_ Try.func118 (by kernel_rfl) rfl #[.pointer (some ⟨g, 0, none⟩), .int .i64 r] (by rfl) rfl rfl (by first | (simp only [List.map_toArray, List.map_cons, List.map_nil, Act.eval, Array.getD_eq_getD_getElem?, Option.getD_some, e16, e19]; done) | (simp only [List.map_toArray, List.map_cons, List.map_nil, Act.eval, Array.getD_eq_getD_getElem?, Option.getD_some, e16, e19]; rfl)) ?_
   with_reducible refine (impl_forking_done.calls s2 r r1 r2 r3 _ _ g _ (Q_I h3) TD.out).mono ?_
   rintro e w11 ⟨vN, rfl, q1_, hb⟩
   exact ⟨_, rfl, hK.out _ _ ⟨vN, .tuple #[.agg #[.int .i64 r1, vN], .int .i64 r3], m21, (by rw [ha.out]; exact putSel_upk 3 hb_ rfl rfl rfl), blk_below Q_K hb, blk_below Q_F hb, fun h_ => blk_below (Q_Z h_) hb, fun h_ => absurd (h7.symm.trans h_) (by decide), below_step Q_B hb, fun h_ => absurd (h3.symm.trans h_) (by decide), fun _ => (Q_I h3).below hb, fun _ => Kd.R_lower q1_ Q_B.size, fun _ => rfl, fun h_ => absurd (h5.symm.trans h_) (by decide)⟩⟩
  refine steps_cons ?_ ?_
  ·rintro b_ a' w' ⟨v1, m20, m21, ha, Q_K, Q_F, Q_Z, Q_G, Q_B, Q_0, Q_I, Q_R, E_4, E_5⟩ hb_ hon hoff
   refine ⟨_, rfl, fun K hK => ?_⟩
   obtain rfl := E_4 (hon 4 (by kernel_rfl))
   have e20 : a'.tmps[20]? = some (.tuple #[.agg #[.int .i64 r1, v1], .int .i64 r3]) := by rw [ha]; exact putSel_on (e := (4, 20, .tuple #[.agg #[.int .i64 r1, v1], .int .i64 r3])) 3 rfl rfl (hon 4 (by kernel_rfl)) rfl
   replace ha := Aside0.mk ha
   refine value_ (w1 := w') (v := .agg #[.int .i64 r1, v1]) (by rfl) rfl ?_ ?_
   ·go_simp
    (try simp only [i64_w])
    try rfl
   exact hK.out _ _ ⟨v1, _, .agg #[.int .i64 r1, v1], (by rw [ha.out]; exact putSel_upk 4 hb_ rfl rfl rfl), Q_K, Q_F, Q_Z, Q_G, Q_B, Q_0, Q_I, Q_R, fun _ => rfl, fun _ => rfl⟩
  refine steps_cons ?_ ?_
  ·rintro b_ a' w' ⟨v1, m20, m21, ha, Q_K, Q_F, Q_Z, Q_G, Q_B, Q_0, Q_I, Q_R, E_4, E_5⟩ hb_ hon hoff
   refine ⟨_, rfl, fun K hK => ?_⟩
   obtain rfl := E_4 (hon 4 (by kernel_rfl))
   have e20 : a'.tmps[20]? = some (.tuple #[.agg #[.int .i64 r1, v1], .int .i64 r3]) := by rw [ha]; exact putSel_on (e := (4, 20, .tuple #[.agg #[.int .i64 r1, v1], .int .i64 r3])) 3 rfl rfl (hon 4 (by kernel_rfl)) rfl
   replace ha := Aside0.mk ha
   refine value_ (w1 := w') (v := .int .i64 r3) (by rfl) rfl ?_ ?_
   ·go_simp
    (try simp only [i64_w])
    try rfl
   exact hK.out _ _ ⟨v1, _, m21, (by rw [ha.out]; exact putSel_upk 5 hb_ rfl rfl rfl), Q_K, Q_F, Q_Z, Q_G, Q_B, Q_0, Q_I, Q_R, fun _ => rfl, E_5⟩
  refine steps_cons ?_ ?_
  ·rintro b_ a' w' ⟨v1, m20, m21, ha, Q_K, Q_F, Q_Z, Q_G, Q_B, Q_0, Q_I, Q_R, E_4, E_5⟩ hb_ hon hoff
   refine ⟨_, rfl, fun K hK => ?_⟩
   obtain rfl := E_5 (hon 5 (by kernel_rfl))
   have h3 := hon 3 (by kernel_rfl)
   have h4 := hon 4 (by kernel_rfl)
   have R_ := Q_R h4
   obtain ⟨A9, c9, rfl⟩ := Kd.R_slice R_
   have Z_ := Q_Z hb_
   have e21 : a'.tmps[21]? = some (.agg #[.int .i64 r1, .slice A9 r2.length c9]) := by rw [ha]; exact putSel_on (e := (5, 21, .agg #[.int .i64 r1, .slice A9 r2.length c9])) 4 rfl rfl (hon 5 (by kernel_rfl)) rfl
   have e4 : a'.tmps[4]? = some (.pointer (some ⟨gr, 0, none⟩)) := by rw [ha]; exact (putSel_off rfl).trans rfl
   replace ha := Aside0.mk ha
   have hs0 : w'.cell? ⟨gr, 0, none⟩ = some (.int .i64 0) := (blk_cell Z_ 0).trans rfl
   have hs1 : w'.cell? ⟨gr, 1, none⟩ = some (.slice none 0 0) := (blk_cell Z_ 1).trans rfl
   have hf0 := blk_frozen Z_ 0
   have hf1 := blk_frozen Z_ 1
   have ZA := Aside0.mk Z_
   have RA_ := Aside0.mk R_
   have IA := Aside0.mk (Q_I h3)
   have H3 := Aside0.mk h3
   replace Q_K := Aside0.mk Q_K
   replace Q_F := Aside0.mk Q_F
   replace Q_B := Aside0.mk Q_B
   have lr_ : gr < w2.heap.size := blk_lt BR2.out
   have NR := Aside0.mk (show gk ≠ gr ∧ gf ≠ gr from ⟨by have := GK.out; have := BN3.out.size; omega, by have := GF.out.1; have := BN3.out.size; omega⟩)
   have LR := Aside0.mk lr_
   clear Z_ R_ h3 h4 lr_
   refine skip_ (w1 := ?_) (by rfl) rfl ?_ ?_
   rotate_left
   ·go_simp
    rfl
   exact hK.out _ _ ⟨_, m20, _, (by rw [ha.out]; exact putSel_none (v := undef) rfl), blk_far (p := ⟨gr, 1, none⟩) (blk_far (p := ⟨gr, 0, none⟩) Q_K.out NR.out.1 _) NR.out.1 _, blk_far (p := ⟨gr, 1, none⟩) (blk_far (p := ⟨gr, 0, none⟩) Q_F.out NR.out.2 _) NR.out.2 _, fun h_ => absurd ((up_self b_ 7).symm.trans h_) (by decide), fun _ => blk_put (blk_put ZA.out 0 _ rfl) 1 _ rfl, below_set (below_set Q_B.out GR.out.1) GR.out.1, fun h_ => absurd (H3.out.symm.trans h_) (by decide), fun _ => (IA.out.step (fun k_ hk_ _ => Below.heap_setCell _ ⟨gr, 0, none⟩ _ k_ (by have := hk_.1; have := LR.out; show k_ ≠ gr; omega))).step (fun k_ hk_ _ => Below.heap_setCell _ ⟨gr, 1, none⟩ _ k_ (by have := hk_.1; have := LR.out; show k_ ≠ gr; omega)), fun _ => Kd.R_set (Kd.R_set RA_.out ZA.out (by decide) 0 _) (blk_put ZA.out 0 _ rfl) (by decide) 1 _, E_4, fun _ => rfl⟩
  refine steps_cons ?_ ?_
  ·rintro b_ a' w' ⟨v1, m20, m21, ha, Q_K, Q_F, Q_Z, Q_G, Q_B, Q_0, Q_I, Q_R, E_4, E_5⟩ hb_ hon hoff
   refine ⟨_, rfl, fun K hK => ?_⟩
   have e22 : a'.tmps[22]? = some (.int .i64 r3) := by rw [ha]; exact putSel_on (e := (6, 22, .int .i64 r3)) 5 rfl rfl (hon 6 (by kernel_rfl)) rfl
   replace ha := Aside0.mk ha
   refine value_ (w1 := w') (v := .int .i64 r3) (by rfl) rfl ?_ ?_
   ·go_simp
    (try simp only [i64_w])
    try rfl
   exact hK.out _ _ ⟨v1, m20, m21, (by rw [ha.out]; exact putSel_upk 6 hb_ rfl rfl rfl), Q_K, Q_F, Q_Z, Q_G, Q_B, Q_0, Q_I, Q_R, E_4, E_5⟩
  exact steps_nil
 rintro b_ a' w11 hall ⟨v1, m20, m21, ha, Q_K, Q_F, Q_Z, Q_G, Q_B, Q_0, Q_I, Q_R, E_4, E_5⟩
 have hb0_ := hall 0 (by kernel_rfl)
 have hb1_ := hall 1 (by kernel_rfl)
 have hb3_ := hall 3 (by kernel_rfl)
 have hb4_ := hall 4 (by kernel_rfl)
 have hb5_ := hall 5 (by kernel_rfl)
 have hb6_ := hall 6 (by kernel_rfl)
 have hb7_ := hall 7 (by kernel_rfl)
 have hb8_ := hall 8 (by kernel_rfl)
 subst ha
 simp only [putSel, hb0_, hb1_, hb3_, hb4_, hb5_, hb6_, hb8_, if_true, Act.put, List.setIfInBounds_toArray, List.set_cons_zero, List.set_cons_succ]
 have RF := Aside0.mk (Q_R hb4_)
 obtain ⟨A5, c5, rfl⟩ := Kd.R_slice RF.out
 have GFIN := Aside0.mk (Q_G hb7_)
 have HE := Aside0.mk Q_B
 clear hall hb0_ hb1_ hb3_ hb4_ hb5_ hb6_ hb7_ hb8_ Q_K Q_F Q_Z Q_G Q_B Q_0 Q_I Q_R E_4 E_5 q0_ q1_ q2_ q3_ q4_
 try go_wp2
 refine bodyPost_ret (results_ct rfl _ _ gr 48 #[.int .i64 r1, .slice A5 r2.length c5] (0, 0) _ rfl GFIN.out Try.underlying48 rfl (by kernel_rfl)) rfl ?_
 exact ⟨_, rfl, RF.out, HE.out⟩

/-! ### impl_Compacted: function 34 -/
def impl_Compacted.f (k : Nat) (a0_0 : Int) (l0_1 : List (S56)) (a1 : Int) : Option (Int × (List (S56)) × Int) := (impl_DiagramValid.f a0_0 l0_1).bind fun t362 => (if t362 = true then ((impl_Diagram_isPlace.f a0_0 l0_1 a1).bind fun t363 => (if t363 = true then ((impl_compacted.f k a0_0 l0_1 a1).bind fun bt364 => (some (bt364.1, bt364.2.1, bt364.2.2))) else (some (0, ([] : List (S56)), (-1))))) else (some (0, ([] : List (S56)), (-1))))
theorem impl_Compacted.mono : ∀ a0 a1 a2 k, LeO (impl_Compacted.f k a0 a1 a2) (impl_Compacted.f (k + 1) a0 a1 a2) := by
 intro a0 a1 a2 k
 unfold impl_Compacted.f
 repeat' first
   | (with_reducible exact impl_compacted.mono _ _ _ _)
   | (with_reducible exact LeO.refl _)
   | (with_reducible exact LeO.none _)
   | (with_reducible refine LeO.ite ?_ ?_)
   | (with_reducible refine LeO.bind ?_ (fun _ => ?_))
set_option maxHeartbeats 8000000 in
set_option maxRecDepth 100000 in
theorem impl_Compacted.calls (k : Nat) (a0_0 : Int) (A0_1 : Option Addr) (c0_1 : Nat) (l0_1 : List (S56)) (a1 : Int) (r1 : Int) (r2 : List (S56)) (r3 : Int) (w : World) (hr0_1 : Kd.C k56 w A0_1 l0_1.length l0_1) (hc0_1 : l0_1.length ≤ c0_1) (h : impl_Compacted.f k a0_0 l0_1 a1 = some (r1, r2, r3)) :
  Calls Try.prog 34 #[.agg #[.int .i64 a0_0, .slice A0_1 l0_1.length c0_1], .int .i64 a1] w fun e w' => ∃ v1_ : Value, e = .returned (.tuple #[.agg #[.int .i64 r1, v1_], .int .i64 r3]) ∧ Kd.R k56 56 w' w.heap.size (fun _ => True) v1_ r2 ∧ Below w.heap.size w w' := by
 have hu48 := Try.underlying48
 have HR0_1 := Aside0.mk hr0_1
 have HC0_1 := Aside0.mk hc0_1
 clear hr0_1 hc0_1
 have HB := Aside0.mk (Below.refl w.heap.size w)
 have H : ((impl_DiagramValid.f a0_0 l0_1).bind fun t362 => (if t362 = true then ((impl_Diagram_isPlace.f a0_0 l0_1 a1).bind fun t363 => (if t363 = true then ((impl_compacted.f k a0_0 l0_1 a1).bind fun bt364 => (some (bt364.1, bt364.2.1, bt364.2.2))) else (some (0, ([] : List (S56)), (-1))))) else (some (0, ([] : List (S56)), (-1))))) = some (r1, r2, r3) := h
 clear h
 replace H := Option.bind_eq_some_iff.mp H
 obtain ⟨t362, A30, H⟩ := H
 replace H : (if t362 = true then ((impl_Diagram_isPlace.f a0_0 l0_1 a1).bind fun t363 => (if t363 = true then ((impl_compacted.f k a0_0 l0_1 a1).bind fun bt364 => (some (bt364.1, bt364.2.1, bt364.2.2))) else (some (0, ([] : List (S56)), (-1))))) else (some (0, ([] : List (S56)), (-1)))) = some (r1, r2, r3) := H
 have A3 := Aside0.mk A30
 clear A30
 by_cases c4 : t362 = true
 ·subst c4
  have H1 : ((impl_Diagram_isPlace.f a0_0 l0_1 a1).bind fun t363 => (if t363 = true then ((impl_compacted.f k a0_0 l0_1 a1).bind fun bt364 => (some (bt364.1, bt364.2.1, bt364.2.2))) else (some (0, ([] : List (S56)), (-1))))) = some (r1, r2, r3) := by rw [if_pos rfl] at H; exact H
  clear H
  have H := H1
  clear H1
  replace H := Option.bind_eq_some_iff.mp H
  obtain ⟨t363, A50, H⟩ := H
  replace H : (if t363 = true then ((impl_compacted.f k a0_0 l0_1 a1).bind fun bt364 => (some (bt364.1, bt364.2.1, bt364.2.2))) else (some (0, ([] : List (S56)), (-1)))) = some (r1, r2, r3) := H
  have A5 := Aside0.mk A50
  clear A50
  by_cases c6 : t363 = true
  ·subst c6
   have H1 : ((impl_compacted.f k a0_0 l0_1 a1).bind fun bt364 => (some (bt364.1, bt364.2.1, bt364.2.2))) = some (r1, r2, r3) := by rw [if_pos rfl] at H; exact H
   clear H
   have H := H1
   clear H1
   replace H := Option.bind_eq_some_iff.mp H
   obtain ⟨⟨t364, t365, t368⟩, A70, H⟩ := H
   replace H : (some (t364, t365, t368)) = some (r1, r2, r3) := H
   have A7 := Aside0.mk A70
   clear A70
   simp only [Option.some.injEq, Prod.mk.injEq] at H
   obtain ⟨rfl, rfl, rfl⟩ := H
   go_enter Try.func34, Try.ntmps34
   go_wp2_with (first | ((with_reducible refine gate_dst (N := 2) rfl ?_); refine box_event ?hg (N := 2) ?hd (cs := #[.int .i64 a0_0, .slice A0_1 l0_1.length c0_1]) (t := 48) ?hr ?_; (case hd => rfl); (case hg => rfl); (case hr => first | (go_simp; done) | (go_simp; rfl)); intro gb360 hg w8 hbox hb; have n0_ := Aside0.mk (below_step hbB hb); have n1_ := Aside0.mk (hbox); have n2_ := Aside0.mk ((gwb hg (below_size hbB) : w.heap.size ≤ gb360)); have n3_ := n2_; clear HB; have HB := n0_; have BK360 := n1_; have GW360 := n2_; have GE360 := n3_; clear n0_ n1_ n2_ n3_; clear hb hbox hg) | ((with_reducible refine gate_dst (N := 4) rfl ?_); refine box_event ?hg (N := 4) ?hd (cs := #[.int .i64 0, .slice none 0 0]) (t := 48) ?hr ?_; (case hd => rfl); (case hg => rfl); (case hr => first | (go_simp; done) | (go_simp; rfl)); intro gb361 hg w9 hbox hb; have n0_ := Aside0.mk (blk_below (g := gb360) (o := .cells #[.int .i64 a0_0, .slice A0_1 l0_1.length c0_1] 48 (0, 0)) (bvK BK360.out) hb); have n1_ := Aside0.mk (below_step hbC hb); have n2_ := Aside0.mk (hbox); have n3_ := Aside0.mk ((gwb hg (below_size hbC) : w.heap.size ≤ gb361)); have n4_ := n3_; have n5_ := Aside0.mk ((by rw [hg]; exact Nat.ne_of_lt (blk_lt (g := gb360) (o := .cells #[.int .i64 a0_0, .slice A0_1 l0_1.length c0_1] 48 (0, 0)) (bvK BK360.out)) : gb360 ≠ gb361)); have n6_ := Aside0.mk ((by rw [hg]; exact Nat.ne_of_gt (blk_lt (g := gb360) (o := .cells #[.int .i64 a0_0, .slice A0_1 l0_1.length c0_1] 48 (0, 0)) (bvK BK360.out)) : gb361 ≠ gb360)); clear BK360; clear HB; have BK360 := n0_; have HB := n1_; have BK361 := n2_; have GW361 := n3_; have GE361 := n4_; have NB360_361 := n5_; have NB361_360 := n6_; clear n0_ n1_ n2_ n3_ n4_ n5_ n6_; clear hb hbox hg; have hnb10 := NB360_361.out; have hnc10 := NB361_360.out; have hcz11_0 : w9.cell? ⟨gb360, 0, none⟩ = some (.int .i64 a0_0) := (blk_cell BK360.out 0).trans rfl; have hcz11_1 : w9.cell? ⟨gb360, 1, none⟩ = some (.slice A0_1 l0_1.length c0_1) := (blk_cell BK360.out 1).trans rfl; have hfz11_0 := blk_frozen BK360.out 0; have hfz11_1 := blk_frozen BK360.out 1) | ((with_reducible refine gate_callee (f := 44) rfl ?_); refine goesL_ (some 7) rfl rfl Try.func44 (by kernel_rfl) rfl #[.agg #[.int .i64 a0_0, .slice A0_1 l0_1.length c0_1]] rfl lmB ?_; (with_reducible refine (impl_DiagramValid.calls a0_0 _ _ l0_1 true _ ?side1 ?side2 A3.out).mono ?_); (case side1 => exact kcR (Kd.C_below HR0_1.out HB.out)); (case side2 => exact HC0_1.out); rintro e w12 ⟨rfl, hb⟩; refine ⟨_, rfl, ?_⟩; have n0_ := Aside0.mk (blk_below (g := gb360) (o := .cells #[.int .i64 a0_0, .slice A0_1 l0_1.length c0_1] 48 (0, 0)) (bvK BK360.out) hb); have n1_ := Aside0.mk (blk_below (g := gb361) (o := .cells #[.int .i64 0, .slice none 0 0] 48 (0, 0)) (bvK BK361.out) hb); have n2_ := Aside0.mk (below_step hbC hb); clear BK360; clear BK361; clear HB; have BK360 := n0_; have BK361 := n1_; have HB := n2_; clear n0_ n1_ n2_; (try clear hb); (try clear hb2); (try clear hk); (try clear hi); have hcz13_0 : w12.cell? ⟨gb360, 0, none⟩ = some (.int .i64 a0_0) := (blk_cell BK360.out 0).trans rfl; have hcz13_1 : w12.cell? ⟨gb360, 1, none⟩ = some (.slice A0_1 l0_1.length c0_1) := (blk_cell BK360.out 1).trans rfl; have hfz13_0 := blk_frozen BK360.out 0; have hfz13_1 := blk_frozen BK360.out 1) | (go_at_call 85; (with_reducible refine (impl_Diagram_isPlace.calls a0_0 _ _ l0_1 a1 true _ ?side1 ?side2 A5.out).mono ?_); (case side1 => exact kcR (Kd.C_below HR0_1.out HB.out)); (case side2 => exact HC0_1.out); rintro e w14 ⟨rfl, hb⟩; have n0_ := Aside0.mk (blk_below (g := gb360) (o := .cells #[.int .i64 a0_0, .slice A0_1 l0_1.length c0_1] 48 (0, 0)) (bvK BK360.out) hb); have n1_ := Aside0.mk (blk_below (g := gb361) (o := .cells #[.int .i64 0, .slice none 0 0] 48 (0, 0)) (bvK BK361.out) hb); have n2_ := Aside0.mk (below_step hbC hb); clear BK360; clear BK361; clear HB; have BK360 := n0_; have BK361 := n1_; have HB := n2_; clear n0_ n1_ n2_; (try clear hb); (try clear hb2); (try clear hk); (try clear hi); have hcz15_0 : w14.cell? ⟨gb360, 0, none⟩ = some (.int .i64 a0_0) := (blk_cell BK360.out 0).trans rfl; have hcz15_1 : w14.cell? ⟨gb360, 1, none⟩ = some (.slice A0_1 l0_1.length c0_1) := (blk_cell BK360.out 1).trans rfl; have hfz15_0 := blk_frozen BK360.out 0; have hfz15_1 := blk_frozen BK360.out 1) | ((with_reducible refine gate_callee (f := 92) rfl ?_); refine goesL_ (some 18) rfl rfl Try.func92 (by kernel_rfl) rfl #[.agg #[.int .i64 a0_0, .slice A0_1 l0_1.length c0_1], .int .i64 a1] rfl lmB ?_; (with_reducible refine (impl_compacted.calls k a0_0 _ _ l0_1 a1 t364 t365 t368 _ ?side1 ?side2 A7.out).mono ?_); (case side1 => exact kcR (Kd.C_below HR0_1.out HB.out)); (case side2 => exact HC0_1.out); rintro e w16 ⟨v366, rfl, ho0, hb⟩; refine ⟨_, rfl, ?_⟩; have n0_ := Aside0.mk (Kd.R_lower ho0 (below_size hbC)); have n1_ := Aside0.mk (blk_below (g := gb360) (o := .cells #[.int .i64 a0_0, .slice A0_1 l0_1.length c0_1] 48 (0, 0)) (bvK BK360.out) hb); have n2_ := Aside0.mk (blk_below (g := gb361) (o := .cells #[.int .i64 0, .slice none 0 0] 48 (0, 0)) (bvK BK361.out) hb); have n3_ := Aside0.mk (below_step hbC hb); clear BK360; clear BK361; clear HB; have HO367 := n0_; have BK360 := n1_; have BK361 := n2_; have HB := n3_; clear n0_ n1_ n2_ n3_; (try clear hb); (try clear hb2); (try clear hk); (try clear hi); (try clear ho0); have hcz17_0 : w16.cell? ⟨gb361, 0, none⟩ = some (.int .i64 0) := (blk_cell BK361.out 0).trans rfl; have hcz17_1 : w16.cell? ⟨gb361, 1, none⟩ = some (.slice none 0 0) := (blk_cell BK361.out 1).trans rfl; have hfz17_0 := blk_frozen BK361.out 0; have hfz17_1 := blk_frozen BK361.out 1; obtain ⟨Ao18, co18, eo18⟩ := Kd.R_slice HO367.out; subst eo18))
   refine bodyPost_ret (results_ct rfl _ _ gb361 48 #[.int .i64 t364, .slice Ao18 t365.length co18] (0, 0) _ rfl (by (with_reducible repeat first | apply bkN | apply bkD | apply bkA); refine blk_put (cs := #[.int .i64 t364, .slice none 0 0]) ?_ 1 _ rfl; (with_reducible repeat first | apply bkN | apply bkD | apply bkA); refine blk_put (cs := #[.int .i64 0, .slice none 0 0]) ?_ 0 _ rfl; (with_reducible repeat first | apply bkN | apply bkD | apply bkA); exact BK361.out) Try.underlying48 rfl (by kernel_rfl)) rfl ?_
   exact ⟨_, ers, by (with_reducible repeat first | apply rvA | apply rvN | apply rvD); exact Kd.R_mono (Kd.R_far (p := ⟨gb361, 1, none⟩) (Kd.R_far (p := ⟨gb361, 0, none⟩) (Kd.R_types HO367.out BK361.out (by decide)) (fun _ hk => hk.2) (.int .i64 t364)) (fun _ hk => hk.2) (.slice Ao18 t365.length co18)) (fun _ hk => trivial), hbC⟩
  ·replace c6 := Bool.eq_false_iff.mpr c6
   subst c6
   have H1 : (some (0, ([] : List (S56)), (-1))) = some (r1, r2, r3) := by rw [if_neg (show ¬ (false = true) by decide)] at H; exact H
   clear H
   have H := H1
   clear H1
   simp only [Option.some.injEq, Prod.mk.injEq] at H
   obtain ⟨rfl, rfl, rfl⟩ := H
   go_enter Try.func34, Try.ntmps34
   go_wp2_with (first | ((with_reducible refine gate_dst (N := 2) rfl ?_); refine box_event ?hg (N := 2) ?hd (cs := #[.int .i64 a0_0, .slice A0_1 l0_1.length c0_1]) (t := 48) ?hr ?_; (case hd => rfl); (case hg => rfl); (case hr => first | (go_simp; done) | (go_simp; rfl)); intro gb360 hg w19 hbox hb; have n0_ := Aside0.mk (below_step hbB hb); have n1_ := Aside0.mk (hbox); have n2_ := Aside0.mk ((gwb hg (below_size hbB) : w.heap.size ≤ gb360)); have n3_ := n2_; clear HB; have HB := n0_; have BK360 := n1_; have GW360 := n2_; have GE360 := n3_; clear n0_ n1_ n2_ n3_; clear hb hbox hg) | ((with_reducible refine gate_dst (N := 4) rfl ?_); refine box_event ?hg (N := 4) ?hd (cs := #[.int .i64 0, .slice none 0 0]) (t := 48) ?hr ?_; (case hd => rfl); (case hg => rfl); (case hr => first | (go_simp; done) | (go_simp; rfl)); intro gb361 hg w20 hbox hb; have n0_ := Aside0.mk (blk_below (g := gb360) (o := .cells #[.int .i64 a0_0, .slice A0_1 l0_1.length c0_1] 48 (0, 0)) (bvK BK360.out) hb); have n1_ := Aside0.mk (below_step hbC hb); have n2_ := Aside0.mk (hbox); have n3_ := Aside0.mk ((gwb hg (below_size hbC) : w.heap.size ≤ gb361)); have n4_ := n3_; have n5_ := Aside0.mk ((by rw [hg]; exact Nat.ne_of_lt (blk_lt (g := gb360) (o := .cells #[.int .i64 a0_0, .slice A0_1 l0_1.length c0_1] 48 (0, 0)) (bvK BK360.out)) : gb360 ≠ gb361)); have n6_ := Aside0.mk ((by rw [hg]; exact Nat.ne_of_gt (blk_lt (g := gb360) (o := .cells #[.int .i64 a0_0, .slice A0_1 l0_1.length c0_1] 48 (0, 0)) (bvK BK360.out)) : gb361 ≠ gb360)); clear BK360; clear HB; have BK360 := n0_; have HB := n1_; have BK361 := n2_; have GW361 := n3_; have GE361 := n4_; have NB360_361 := n5_; have NB361_360 := n6_; clear n0_ n1_ n2_ n3_ n4_ n5_ n6_; clear hb hbox hg; have hnb21 := NB360_361.out; have hnc21 := NB361_360.out; have hcz22_0 : w20.cell? ⟨gb360, 0, none⟩ = some (.int .i64 a0_0) := (blk_cell BK360.out 0).trans rfl; have hcz22_1 : w20.cell? ⟨gb360, 1, none⟩ = some (.slice A0_1 l0_1.length c0_1) := (blk_cell BK360.out 1).trans rfl; have hfz22_0 := blk_frozen BK360.out 0; have hfz22_1 := blk_frozen BK360.out 1) | ((with_reducible refine gate_callee (f := 44) rfl ?_); refine goesL_ (some 7) rfl rfl Try.func44 (by kernel_rfl) rfl #[.agg #[.int .i64 a0_0, .slice A0_1 l0_1.length c0_1]] rfl lmB ?_; (with_reducible refine (impl_DiagramValid.calls a0_0 _ _ l0_1 true _ ?side1 ?side2 A3.out).mono ?_); (case side1 => exact kcR (Kd.C_below HR0_1.out HB.out)); (case side2 => exact HC0_1.out); rintro e w23 ⟨rfl, hb⟩; refine ⟨_, rfl, ?_⟩; have n0_ := Aside0.mk (blk_below (g := gb360) (o := .cells #[.int .i64 a0_0, .slice A0_1 l0_1.length c0_1] 48 (0, 0)) (bvK BK360.out) hb); have n1_ := Aside0.mk (blk_below (g := gb361) (o := .cells #[.int .i64 0, .slice none 0 0] 48 (0, 0)) (bvK BK361.out) hb); have n2_ := Aside0.mk (below_step hbC hb); clear BK360; clear BK361; clear HB; have BK360 := n0_; have BK361 := n1_; have HB := n2_; clear n0_ n1_ n2_; (try clear hb); (try clear hb2); (try clear hk); (try clear hi); have hcz24_0 : w23.cell? ⟨gb360, 0, none⟩ = some (.int .i64 a0_0) := (blk_cell BK360.out 0).trans rfl; have hcz24_1 : w23.cell? ⟨gb360, 1, none⟩ = some (.slice A0_1 l0_1.length c0_1) := (blk_cell BK360.out 1).trans rfl; have hfz24_0 := blk_frozen BK360.out 0; have hfz24_1 := blk_frozen BK360.out 1) | (go_at_call 85; (with_reducible refine (impl_Diagram_isPlace.calls a0_0 _ _ l0_1 a1 false _ ?side1 ?side2 A5.out).mono ?_); (case side1 => exact kcR (Kd.C_below HR0_1.out HB.out)); (case side2 => exact HC0_1.out); rintro e w25 ⟨rfl, hb⟩; have n0_ := Aside0.mk (blk_below (g := gb360) (o := .cells #[.int .i64 a0_0, .slice A0_1 l0_1.length c0_1] 48 (0, 0)) (bvK BK360.out) hb); have n1_ := Aside0.mk (blk_below (g := gb361) (o := .cells #[.int .i64 0, .slice none 0 0] 48 (0, 0)) (bvK BK361.out) hb); have n2_ := Aside0.mk (below_step hbC hb); clear BK360; clear BK361; clear HB; have BK360 := n0_; have BK361 := n1_; have HB := n2_; clear n0_ n1_ n2_; (try clear hb); (try clear hb2); (try clear hk); (try clear hi); have hcz26_0 : w25.cell? ⟨gb361, 0, none⟩ = some (.int .i64 0) := (blk_cell BK361.out 0).trans rfl; have hcz26_1 : w25.cell? ⟨gb361, 1, none⟩ = some (.slice none 0 0) := (blk_cell BK361.out 1).trans rfl; have hfz26_0 := blk_frozen BK361.out 0; have hfz26_1 := blk_frozen BK361.out 1))
   refine bodyPost_ret (results_ct rfl _ _ gb361 48 #[.int .i64 0, .slice none 0 0] (0, 0) _ rfl (by (with_reducible repeat first | apply bkN | apply bkD | apply bkA); refine blk_put (cs := #[.int .i64 0, .slice none 0 0]) ?_ 1 _ rfl; (with_reducible repeat first | apply bkN | apply bkD | apply bkA); refine blk_put (cs := #[.int .i64 0, .slice none 0 0]) ?_ 0 _ rfl; (with_reducible repeat first | apply bkN | apply bkD | apply bkA); exact BK361.out) Try.underlying48 rfl (by kernel_rfl)) rfl ?_
   exact ⟨_, ers, by first | exact Kd.R_nil _ _ _ _ _ | exact Kd.N_nil _ _ _ _ _ | exact Kd.V_nil _ _ _ _ _ | exact Kd.Q_nil _ _ _ _ _ | exact Kd.S_nil _ _ _ _ _, hbC⟩
 ·replace c4 := Bool.eq_false_iff.mpr c4
  subst c4
  have H1 : (some (0, ([] : List (S56)), (-1))) = some (r1, r2, r3) := by rw [if_neg (show ¬ (false = true) by decide)] at H; exact H
  clear H
  have H := H1
  clear H1
  simp only [Option.some.injEq, Prod.mk.injEq] at H
  obtain ⟨rfl, rfl, rfl⟩ := H
  go_enter Try.func34, Try.ntmps34
  go_wp2_with (first | ((with_reducible refine gate_dst (N := 2) rfl ?_); refine box_event ?hg (N := 2) ?hd (cs := #[.int .i64 a0_0, .slice A0_1 l0_1.length c0_1]) (t := 48) ?hr ?_; (case hd => rfl); (case hg => rfl); (case hr => first | (go_simp; done) | (go_simp; rfl)); intro gb360 hg w27 hbox hb; have n0_ := Aside0.mk (below_step hbB hb); have n1_ := Aside0.mk (hbox); have n2_ := Aside0.mk ((gwb hg (below_size hbB) : w.heap.size ≤ gb360)); have n3_ := n2_; clear HB; have HB := n0_; have BK360 := n1_; have GW360 := n2_; have GE360 := n3_; clear n0_ n1_ n2_ n3_; clear hb hbox hg) | ((with_reducible refine gate_dst (N := 4) rfl ?_); refine box_event ?hg (N := 4) ?hd (cs := #[.int .i64 0, .slice none 0 0]) (t := 48) ?hr ?_; (case hd => rfl); (case hg => rfl); (case hr => first | (go_simp; done) | (go_simp; rfl)); intro gb361 hg w28 hbox hb; have n0_ := Aside0.mk (blk_below (g := gb360) (o := .cells #[.int .i64 a0_0, .slice A0_1 l0_1.length c0_1] 48 (0, 0)) (bvK BK360.out) hb); have n1_ := Aside0.mk (below_step hbC hb); have n2_ := Aside0.mk (hbox); have n3_ := Aside0.mk ((gwb hg (below_size hbC) : w.heap.size ≤ gb361)); have n4_ := n3_; have n5_ := Aside0.mk ((by rw [hg]; exact Nat.ne_of_lt (blk_lt (g := gb360) (o := .cells #[.int .i64 a0_0, .slice A0_1 l0_1.length c0_1] 48 (0, 0)) (bvK BK360.out)) : gb360 ≠ gb361)); have n6_ := Aside0.mk ((by rw [hg]; exact Nat.ne_of_gt (blk_lt (g := gb360) (o := .cells #[.int .i64 a0_0, .slice A0_1 l0_1.length c0_1] 48 (0, 0)) (bvK BK360.out)) : gb361 ≠ gb360)); clear BK360; clear HB; have BK360 := n0_; have HB := n1_; have BK361 := n2_; have GW361 := n3_; have GE361 := n4_; have NB360_361 := n5_; have NB361_360 := n6_; clear n0_ n1_ n2_ n3_ n4_ n5_ n6_; clear hb hbox hg; have hnb29 := NB360_361.out; have hnc29 := NB361_360.out; have hcz30_0 : w28.cell? ⟨gb360, 0, none⟩ = some (.int .i64 a0_0) := (blk_cell BK360.out 0).trans rfl; have hcz30_1 : w28.cell? ⟨gb360, 1, none⟩ = some (.slice A0_1 l0_1.length c0_1) := (blk_cell BK360.out 1).trans rfl; have hfz30_0 := blk_frozen BK360.out 0; have hfz30_1 := blk_frozen BK360.out 1) | ((with_reducible refine gate_callee (f := 44) rfl ?_); refine goesL_ (some 7) rfl rfl Try.func44 (by kernel_rfl) rfl #[.agg #[.int .i64 a0_0, .slice A0_1 l0_1.length c0_1]] rfl lmB ?_; (with_reducible refine (impl_DiagramValid.calls a0_0 _ _ l0_1 false _ ?side1 ?side2 A3.out).mono ?_); (case side1 => exact kcR (Kd.C_below HR0_1.out HB.out)); (case side2 => exact HC0_1.out); rintro e w31 ⟨rfl, hb⟩; refine ⟨_, rfl, ?_⟩; have n0_ := Aside0.mk (blk_below (g := gb360) (o := .cells #[.int .i64 a0_0, .slice A0_1 l0_1.length c0_1] 48 (0, 0)) (bvK BK360.out) hb); have n1_ := Aside0.mk (blk_below (g := gb361) (o := .cells #[.int .i64 0, .slice none 0 0] 48 (0, 0)) (bvK BK361.out) hb); have n2_ := Aside0.mk (below_step hbC hb); clear BK360; clear BK361; clear HB; have BK360 := n0_; have BK361 := n1_; have HB := n2_; clear n0_ n1_ n2_; (try clear hb); (try clear hb2); (try clear hk); (try clear hi); have hcz32_0 : w31.cell? ⟨gb361, 0, none⟩ = some (.int .i64 0) := (blk_cell BK361.out 0).trans rfl; have hcz32_1 : w31.cell? ⟨gb361, 1, none⟩ = some (.slice none 0 0) := (blk_cell BK361.out 1).trans rfl; have hfz32_0 := blk_frozen BK361.out 0; have hfz32_1 := blk_frozen BK361.out 1))
  refine bodyPost_ret (results_ct rfl _ _ gb361 48 #[.int .i64 0, .slice none 0 0] (0, 0) _ rfl (by (with_reducible repeat first | apply bkN | apply bkD | apply bkA); refine blk_put (cs := #[.int .i64 0, .slice none 0 0]) ?_ 1 _ rfl; (with_reducible repeat first | apply bkN | apply bkD | apply bkA); refine blk_put (cs := #[.int .i64 0, .slice none 0 0]) ?_ 0 _ rfl; (with_reducible repeat first | apply bkN | apply bkD | apply bkA); exact BK361.out) Try.underlying48 rfl (by kernel_rfl)) rfl ?_
  exact ⟨_, ers, by first | exact Kd.R_nil _ _ _ _ _ | exact Kd.N_nil _ _ _ _ _ | exact Kd.V_nil _ _ _ _ _ | exact Kd.Q_nil _ _ _ _ _ | exact Kd.S_nil _ _ _ _ _, hbC⟩

end Go.Proofs.Ytpcckoljocpchaa.QFnReorderBack
