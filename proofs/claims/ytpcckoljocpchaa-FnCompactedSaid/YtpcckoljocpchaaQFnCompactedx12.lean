-- Written by a program of this session (mk.py). Lean checks it.
import Derived.Test.YtpcckoljocpchaaQFnCompactedx0
import Derived.Test.YtpcckoljocpchaaQFnCompactedx3
import Derived.Test.YtpcckoljocpchaaQFnCompactedx5
namespace Go.Proofs.Ytpcckoljocpchaa.QFnCompacted
open Go.RowKit Go.Proofs.YtpcckoljocpchaaW.PrintWords Go.Proofs.YtpcckoljocpchaaW.PrintLast Go.Proofs.YtpcckoljocpchaaW.PrintMore
attribute [local go_sem] max2_int min2_int max_two min_two max_three min_three max_four min_four   -- for this text's walks alone
set_option linter.unusedVariables false
set_option linter.unusedSimpArgs false

/-! ### impl_Diagram_count: function 102 -/
def impl_Diagram_count.cl : Nat → Int → List S56 → Int → (Int → Option Int) → Option ((Int → Option Int) × Int)
 | 0, _, _, _, _ => none
 | k + 1, vars, L, n, m => if n < 2 then (if 0 ≤ vars ∧ vars ≤ 64 then some (m, shl .i64 n vars) else none)
  else if KeyI n then
   match m n with
   | some r => some (m, r)
   | none => if 0 ≤ wrap64 (n - 2) then if wrap64 (n - 2) < (L.length : Int) then
     (impl_Diagram_count.cl k vars L (rd_T56 L (wrap64 (n - 2))).f1 m).bind fun p1 => (impl_Diagram_count.cl k vars L (rd_T56 L (wrap64 (n - 2))).f2 p1.1).bind fun p2 =>
     some ((fun y => if y = n then some (wrap64 ((wrap64 (p1.2 + p2.2)).tdiv 2)) else p2.1 y), wrap64 ((wrap64 (p1.2 + p2.2)).tdiv 2)) else none else none
  else none
theorem impl_Diagram_count.cl_le : ∀ (k : Nat) (vars : Int) (L : List S56) (n : Int) (m : Int → Option Int), LeO (impl_Diagram_count.cl k vars L n m) (impl_Diagram_count.cl (k + 1) vars L n m)
 | 0 => fun _ _ _ _ r h => by simp [impl_Diagram_count.cl] at h
 | k + 1 => fun vars L n m => by
  have ih := impl_Diagram_count.cl_le k
  rw [impl_Diagram_count.cl, impl_Diagram_count.cl]
  refine LeO.ite (LeO.refl _) (LeO.ite ?_ (LeO.refl _))
  cases m n with
  | some r => exact LeO.refl _
  | none => exact LeO.ite (LeO.ite (LeO.bind (ih _ _ _ _) (fun _ => LeO.bind (ih _ _ _ _) (fun _ => LeO.refl _))) (LeO.refl _)) (LeO.refl _)
def impl_Diagram_count.f (k : Nat) (a0_0 : Int) (l0_1 : List S56) (a1 : Int) : Option Int := (impl_Diagram_count.cl k a0_0 l0_1 a1 (fun _ => none)).bind fun p => some p.2
theorem impl_Diagram_count.mono : ∀ a0_0 l0_1 a1 k, LeO (impl_Diagram_count.f k a0_0 l0_1 a1) (impl_Diagram_count.f (k + 1) a0_0 l0_1 a1) := fun a0_0 l0_1 a1 k => LeO.bind (impl_Diagram_count.cl_le k _ _ _ _) (fun _ => LeO.refl _)
def impl_Diagram_count.T7 : Bool × List (List Nat × List Nat) := (true, [([], []), ([], []), ([], []), ([], []), ([3], [3]), ([2, 4], [2, 4]), ([], []), ([], []), ([7], [7]), ([6, 8, 5], [6, 8]), ([5, 9], [5, 9]), ([10], [10]), ([0, 1, 11, 9, 0, 1, 2, 3, 4, 5, 6, 7, 8, 9, 10, 11], [0, 1, 11])])
def impl_Diagram_count.B7 : List Nat := [0, 0, 0, 0, 8, 28, 0, 0, 128, 508, 1020, 2044, 4095]
theorem impl_Diagram_count.tab7 : rtab .any (opsOf Try.f135 7) = impl_Diagram_count.T7 := by kernel_rfl
theorem impl_Diagram_count.bits7 : waitsOk impl_Diagram_count.T7.2 impl_Diagram_count.B7 = true := by kernel_rfl
set_option maxHeartbeats 16000000 in
set_option maxRecDepth 100000 in
theorem impl_Diagram_count.cl_calls (eg : ∀ args w, (callFunc 135 args).run Try.prog w = .ok (.enter 135 args) w) : ∀ (k : Nat) (vars : Int) (L : List S56) (n : Int) (m m' : Int → Option Int) (r : Int) (A : Option Addr) (c : Nat) (gd gm gf mb : Nat) (w0 w : World) (_ : Below w0.heap.size w0 w)
  (_ : w.heap[gd]? = some (.cells #[.int .i64 vars, .slice A L.length c] 48 (0, 0))) (_ : w.heap[gm]? = some (.cells #[.map (some mb)] 135 (0, 0))) (_ : w.heap[gf]? = some (.cells #[.func (.func 135) #[] #[.pointer (some ⟨gd, 0, none⟩), .pointer (some ⟨gm, 0, none⟩), .pointer (some ⟨gf, 0, none⟩)]] 93 (0, 0))) (_ : Mp.Is (Value.int .i64) KeyI (Value.int .i64) w mb m) (_ : w0.heap.size ≤ mb) (_ : ∀ W, Kept w W (fun k_ => k_ = mb) → Kd.C k56 W A L.length L) (_ : L.length ≤ c) (_ : impl_Diagram_count.cl k vars L n m = some (m', r)),
  Calls Try.prog 135 (#[.int .i64 n] ++ #[.pointer (some ⟨gd, 0, none⟩), .pointer (some ⟨gm, 0, none⟩), .pointer (some ⟨gf, 0, none⟩)]) w fun e w' => e = .returned (.int .i64 r) ∧ Mp.Is (Value.int .i64) KeyI (Value.int .i64) w' mb m' ∧ Below w0.heap.size w0 w' ∧ Kept w w' (fun k_ => k_ = mb)
 | 0 => fun _ _ _ _ _ _ _ _ _ _ _ _ _ _ _ _ _ _ _ _ _ _ h => by simp [impl_Diagram_count.cl] at h
 | k + 1 => fun vars L n m m' r A c gd gm gf mb w0 w hB hgd hgm hgf hM hmb hC hc h => by
  show Calls Try.prog 135 #[.int .i64 n, .pointer (some ⟨gd, 0, none⟩), .pointer (some ⟨gm, 0, none⟩), .pointer (some ⟨gf, 0, none⟩)] w _
  have IH := Aside0.mk (impl_Diagram_count.cl_calls eg k)
  have hu25 := Try.underlying48
  have hu71 := Try.underlying56
  have HB := Aside0.mk hB
  have HM := Aside0.mk hM
  have MB := Aside0.mk hmb
  have HC := Aside0.mk hC
  have HL := Aside0.mk hc
  have BGD := Aside0.mk hgd
  have BGM := Aside0.mk hgm
  have BGF := Aside0.mk hgf
  have NE : Aside0 (gd ≠ mb ∧ gm ≠ mb ∧ gf ≠ mb) := by
   obtain ⟨es, ck, hb, _⟩ := hM
   refine ⟨?_, ?_, ?_⟩
   ·rintro rfl
    rw [hb] at hgd
    cases hgd
   ·rintro rfl
    rw [hb] at hgm
    cases hgm
   ·rintro rfl
    rw [hb] at hgf
    cases hgf
  have d0 : w.cell? ⟨gd, 0, none⟩ = some (.int .i64 vars) := (blk_cell hgd 0).trans rfl
  have d1 : w.cell? ⟨gd, 1, none⟩ = some (.slice A L.length c) := (blk_cell hgd 1).trans rfl
  have m0 : w.cell? ⟨gm, 0, none⟩ = some (.map (some mb)) := (blk_cell hgm 0).trans rfl
  rw [impl_Diagram_count.cl] at h
  clear hB hgd hgm hgf hM hmb hC hc
  by_cases c1 : n < 2
  ·rw [if_pos c1] at h
   by_cases c2 : 0 ≤ vars ∧ vars ≤ 64
   ·rw [if_pos c2] at h
    simp only [Option.some.injEq, Prod.mk.injEq] at h
    obtain ⟨rfl, hj⟩ := h
    have e1 : decide (n < 2) = true := decide_eq_true c1
    have h64 := c2.2
    have z0 := c2.1
    have zb0 := eq_true z0
    have zb1 : decide (0 ≤ vars) = true := decide_eq_true z0
    have zj_ : (IntKind.i64.wrap (n * 2 ^ min vars.toNat 64)) = r := hj
    have zjz : (IntKind.i64.wrap (n * 2 ^ vars.toNat)) = r := shl_small hj h64
    have zjy : (wrap64 (n * 2 ^ min vars.toNat 64)) = r := (i64_w _).symm.trans zj_
    have zjx : (wrap64 (n * 2 ^ vars.toNat)) = r := (i64_w _).symm.trans zjz
    clear c1 c2 hj
    go_enter Try.func135, Try.ntmps135
    go_wp2
    go_ret
    exact ⟨by first | rfl | (simp [*]; done), HM.out, HB.out, Kept.refl _ _⟩
   ·rw [if_neg c2] at h
    cases h
  rw [if_neg c1] at h
  have e1 : decide (n < 2) = false := decide_eq_false c1
  clear c1
  by_cases c3 : KeyI n
  ·rw [if_pos c3] at h
   have C3 := Aside0.mk c3
   clear c3
   cases hs : m n with
   | some q =>
    rw [hs] at h
    simp only [Option.some.injEq, Prod.mk.injEq] at h
    obtain ⟨rfl, rfl⟩ := h
    go_enter Try.func135, Try.ntmps135
    go_wp2_with ((with_reducible refine gate_ (op := .lookup 135 (.tmp 16) (.tmp 17) true) rfl ?_); refine Mp.look_some rfl (.tmp 16) (.tmp 17) rfl rfl HM.out keyInt Try.underlying135 zero_int n rfl C3.out hs ?_)
    go_ret
    exact ⟨rfl, HM.out, HB.out, Kept.refl _ _⟩
   | none =>
    rw [hs] at h
    simp only at h
    obtain ⟨j, hj⟩ : ∃ j, wrap64 (n - 2) = j := ⟨_, rfl⟩
    have hjw : (IntKind.i64.wrap (n - 2)) = j := (i64_w _).trans hj
    rw [hj] at h
    by_cases c4 : 0 ≤ j
    ·rw [if_pos c4] at h
     by_cases c5 : j < (L.length : Int)
     ·rw [if_pos c5] at h
      obtain ⟨ad, rfl, hx0, hx1, hx2⟩ := at_T56 (HC.out w (Kept.refl _ _)) j c4 c5
      have c4b : decide (0 ≤ j) = true := decide_eq_true c4
      have c5b : decide (j < (L.length : Int)) = true := decide_eq_true c5
      generalize rd_T56 L j = x at h hx0 hx1 hx2
      obtain ⟨⟨m1, r1⟩, hp1, h2⟩ := Option.bind_eq_some_iff.mp h
      obtain ⟨⟨m2, r2⟩, hp2, h3⟩ := Option.bind_eq_some_iff.mp h2
      simp only [Option.some.injEq, Prod.mk.injEq] at h3 hp2
      obtain ⟨hm3, hr3⟩ := h3
      have P1 := Aside0.mk hp1
      have P2 := Aside0.mk hp2
      obtain ⟨sm, hsm⟩ : ∃ sm, wrap64 (r1 + r2) = sm := ⟨_, rfl⟩
      rw [hsm] at hm3 hr3
      rw [hr3] at hm3
      have M3 := Aside0.mk hm3
      have R3 := Aside0.mk hr3
      have SM := Aside0.mk hsm
      clear h h2 hp1 hp2 hm3 hr3 hsm hj
      go_enter Try.func135, Try.ntmps135
      go_upto_region 7 with (first | ((with_reducible refine gate_ (op := .lookup 135 (.tmp 16) (.tmp 17) true) rfl ?_); refine Mp.look_none rfl (.tmp 16) (.tmp 17) rfl rfl HM.out keyInt Try.underlying135 zero_int n rfl C3.out hs ?_) | ((with_reducible refine gate_dst (N := 8) rfl ?_); refine box_event ?hg (N := 8) ?hd (cs := #[.int .i64 0, .int .i64 0, .int .i64 0]) (t := 56) ?hr ?_; (case hd => rfl); (case hg => rfl); (case hr => first | (go_simp; done) | (go_simp; rfl)); intro gb hgb w7 hbox hb; have BX0 := Aside0.mk hbox; have HB7 := Aside0.mk hb; have hz0 : w7.cell? ⟨gb, 0, none⟩ = some (.int .i64 0) := (blk_cell BX0.out 0).trans rfl; have hz1 : w7.cell? ⟨gb, 1, none⟩ = some (.int .i64 0) := (blk_cell BX0.out 1).trans rfl; have hz2 : w7.cell? ⟨gb, 2, none⟩ = some (.int .i64 0) := (blk_cell BX0.out 2).trans rfl; have hy0 := blk_frozen BX0.out 0; have hy1 := blk_frozen BX0.out 1; have hy2 := blk_frozen BX0.out 2; have HGB := Aside0.mk (show w.heap.size ≤ gb from Nat.le_of_eq hgb.symm); clear hgb hbox hb))
      have n0_ := Aside0.mk (below_set (below_set (below_set HB7.out HGB.out (j := 0) (v := .int .i64 x.f0)) HGB.out (j := 1) (v := .int .i64 x.f1)) HGB.out (j := 2) (v := .int .i64 x.f2))
      have BX8 := Aside0.mk (blk_put (blk_put (blk_put BX0.out 0 (.int .i64 x.f0) rfl) 1 (.int .i64 x.f1) rfl) 2 (.int .i64 x.f2) rfl)
      generalize (((w7.setCell ⟨gb, 0, none⟩ (.int .i64 x.f0)).setCell ⟨gb, 1, none⟩ (.int .i64 x.f1)).setCell ⟨gb, 2, none⟩ (.int .i64 x.f2)) = w8 at n0_ BX8 ⊢
      have NG : Aside0 (gb ≠ mb) := ⟨fun e_ => by have := HM.out.lt; have := HGB.out; omega⟩
      clear hz0 hz1 hz2 hy0 hy1 hy2 BX0 HB7 hx0 hx1 hx2
      refine start_ (n := 13) (S := fun w' => True) (ds := []) (Pt.bm 13 0) (by kernel_rfl) rfl rfl trivial (fun hHeld => ?_)
      refine with_tabW impl_Diagram_count.tab7 impl_Diagram_count.bits7 (fun HT_ HW_ => ?_)
      have n1_ := Aside0.mk (blk_drew BX8.out)
      have n2_ := Aside0.mk (Kept.of_below n0_.out (fun k_ => k_ = mb)).drew
      have n3_ := Aside0.mk (below_drew (below_then HB.out HB.out.size n0_.out))
      have n4_ := Aside0.mk ((HM.out.below n0_.out).drew)
      clear hHeld n0_ BX8
      generalize w8.drew = wS at n1_ n2_ n3_ n4_ ⊢
      refine Pt.pu 1 (some 30) (Pt.bm 13 2) (by kernel_rfl) ?_
      refine Pt.pu 3 (some 32) (v := .pointer (some ⟨gb, 1, none⟩)) (Pt.bm 13 10) (by kernel_rfl) ?_ (hy := by refine Or.inl ⟨by rfl, ?_⟩; intro w'; first | (go_simp; done) | (go_simp; rfl))
      refine Pt.pu 7 (some 36) (v := .pointer (some ⟨gb, 2, none⟩)) (Pt.bm 13 138) (by kernel_rfl) ?_ (hy := by refine Or.inl ⟨by rfl, ?_⟩; intro w'; first | (go_simp; done) | (go_simp; rfl))
      refine inv_at [0, 2, 4, 5, 6, 8, 9, 10, 11, 12] (fun a0_ b_ a' w' => a' = putSel a0_ b_ [(0, 29, .map (some mb)), (2, 31, .func (.func 135) #[] #[.pointer (some ⟨gd, 0, none⟩), .pointer (some ⟨gm, 0, none⟩), .pointer (some ⟨gf, 0, none⟩)]), (4, 33, .int .i64 x.f1), (5, 34, .int .i64 r1), (6, 35, .func (.func 135) #[] #[.pointer (some ⟨gd, 0, none⟩), .pointer (some ⟨gm, 0, none⟩), .pointer (some ⟨gf, 0, none⟩)]), (8, 37, .int .i64 x.f2), (9, 38, .int .i64 r2), (10, 39, .int .i64 sm), (11, 40, .int .i64 r)] ∧ w'.heap[gb]? = some (.cells #[.int .i64 x.f0, .int .i64 x.f1, .int .i64 x.f2] 56 (0, 0)) ∧ Kept w w' (fun k_ => k_ = mb) ∧ Below w0.heap.size w0 w' ∧ (b_ 5 = false → Mp.Is (Value.int .i64) KeyI (Value.int .i64) w' mb m) ∧ (b_ 5 = true → b_ 9 = false → Mp.Is (Value.int .i64) KeyI (Value.int .i64) w' mb m1) ∧ (b_ 9 = true → b_ 12 = false → Mp.Is (Value.int .i64) KeyI (Value.int .i64) w' mb m2) ∧ (b_ 12 = true → Mp.Is (Value.int .i64) KeyI (Value.int .i64) w' mb m')) HT_.out HW_.out (by kernel_rfl) (by kernel_rfl) ?_ ?_ ?_
      ·exact ⟨by simp only [putSel, Bool.false_eq_true, if_false], n1_.out, n2_.out, n3_.out, fun _ => n4_.out, fun h_ => absurd h_ (by decide), fun h_ => absurd h_ (by decide), fun h_ => absurd h_ (by decide)⟩
      ·clear n1_ n2_ n3_ n4_
       refine steps_cons ?_ ?_
       ·rintro b_ a' w' ⟨ha, Q_X, Q_K, Q_B, Q_0, Q_1, Q_2, Q_3⟩ hb_ hon hoff
        refine ⟨_, rfl, fun K hK => ?_⟩
        have e2 : a'.tmps[2]? = some (.pointer (some ⟨gm, 0, none⟩)) := by rw [ha]; exact (putSel_off rfl).trans rfl
        replace ha := Aside0.mk ha
        have BM1 := blk_kept BGM.out Q_K NE.out.2.1
        have hc0_ : w'.cell? ⟨gm, 0, none⟩ = some (.map (some mb)) := (blk_cell BM1 0).trans rfl
        refine value_ (w1 := w') (v := .map (some mb)) (by rfl) rfl ?_ ?_
        ·go_simp
         (try simp only [i64_w])
         try rfl
        exact hK.out _ _ ⟨(by rw [ha.out]; exact putSel_upk 0 hb_ rfl rfl rfl), Q_X, Q_K, Q_B, Q_0, Q_1, Q_2, Q_3⟩
       refine steps_cons ?_ ?_
       ·rintro b_ a' w' ⟨ha, Q_X, Q_K, Q_B, Q_0, Q_1, Q_2, Q_3⟩ hb_ hon hoff
        refine ⟨_, rfl, fun K hK => ?_⟩
        have e3 : a'.tmps[3]? = some (.pointer (some ⟨gf, 0, none⟩)) := by rw [ha]; exact (putSel_off rfl).trans rfl
        replace ha := Aside0.mk ha
        have BF1 := blk_kept BGF.out Q_K NE.out.2.2
        have hc0_ : w'.cell? ⟨gf, 0, none⟩ = some (.func (.func 135) #[] #[.pointer (some ⟨gd, 0, none⟩), .pointer (some ⟨gm, 0, none⟩), .pointer (some ⟨gf, 0, none⟩)]) := (blk_cell BF1 0).trans rfl
        refine value_ (w1 := w') (v := .func (.func 135) #[] #[.pointer (some ⟨gd, 0, none⟩), .pointer (some ⟨gm, 0, none⟩), .pointer (some ⟨gf, 0, none⟩)]) (by rfl) rfl ?_ ?_
        ·go_simp
         (try simp only [i64_w])
         try rfl
        exact hK.out _ _ ⟨(by rw [ha.out]; exact putSel_upk 1 hb_ rfl rfl rfl), Q_X, Q_K, Q_B, Q_0, Q_1, Q_2, Q_3⟩
       refine steps_cons ?_ ?_
       ·rintro b_ a' w' ⟨ha, Q_X, Q_K, Q_B, Q_0, Q_1, Q_2, Q_3⟩ hb_ hon hoff
        refine ⟨_, rfl, fun K hK => ?_⟩
        have e32 : a'.tmps[32]? = some (.pointer (some ⟨gb, 1, none⟩)) := by rw [ha]; exact (putSel_off rfl).trans rfl
        replace ha := Aside0.mk ha
        have hc0_ : w'.cell? ⟨gb, 1, none⟩ = some (.int .i64 x.f1) := (blk_cell Q_X 1).trans rfl
        refine value_ (w1 := w') (v := .int .i64 x.f1) (by rfl) rfl ?_ ?_
        ·go_simp
         (try simp only [i64_w])
         try rfl
        exact hK.out _ _ ⟨(by rw [ha.out]; exact putSel_upk 2 hb_ rfl rfl rfl), Q_X, Q_K, Q_B, Q_0, Q_1, Q_2, Q_3⟩
       refine steps_cons ?_ ?_
       ·rintro b_ a' w' ⟨ha, Q_X, Q_K, Q_B, Q_0, Q_1, Q_2, Q_3⟩ hb_ hon hoff
        refine ⟨_, rfl, fun K hK => ?_⟩
        have e31 : a'.tmps[31]? = some (.func (.func 135) #[] #[.pointer (some ⟨gd, 0, none⟩), .pointer (some ⟨gm, 0, none⟩), .pointer (some ⟨gf, 0, none⟩)]) := by rw [ha]; exact putSel_on (e := (2, 31, .func (.func 135) #[] #[.pointer (some ⟨gd, 0, none⟩), .pointer (some ⟨gm, 0, none⟩), .pointer (some ⟨gf, 0, none⟩)])) 1 rfl rfl (hon 2 (by kernel_rfl)) rfl
        have e33 : a'.tmps[33]? = some (.int .i64 x.f1) := by rw [ha]; exact putSel_on (e := (4, 33, .int .i64 x.f1)) 2 rfl rfl (hon 4 (by kernel_rfl)) rfl
        replace ha := Aside0.mk ha
        have QM_ := Q_0 hb_
        refine Pv.goesV 135 #[.pointer (some ⟨gd, 0, none⟩), .pointer (some ⟨gm, 0, none⟩), .pointer (some ⟨gf, 0, none⟩)] eg #[.int .i64 x.f1] (by rfl) rfl rfl (by first | (simp only [Act.eval, Array.getD_eq_getD_getElem?, Option.getD_some, e31]; done) | (simp only [Act.eval, Array.getD_eq_getD_getElem?, Option.getD_some, e31]; rfl)) (by first | (simp only [List.map_toArray, List.map_cons, List.map_nil, Act.eval, Array.getD_eq_getD_getElem?, Option.getD_some, e33]; done) | (simp only [List.map_toArray, List.map_cons, List.map_nil, Act.eval, Array.getD_eq_getD_getElem?, Option.getD_some, e33]; rfl)) ?_
        with_reducible refine (IH.out vars L x.f1 m m1 r1 (some ad) c gd gm gf mb w0 _ Q_B (blk_kept BGD.out Q_K NE.out.1) (blk_kept BGM.out Q_K NE.out.2.1) (blk_kept BGF.out Q_K NE.out.2.2) QM_ MB.out (fun W_ hk_ => HC.out W_ (Q_K.then_ hk_ (fun _ h_ => .inl h_))) HL.out P1.out).mono ?_
        rintro e w10 ⟨rfl, q1_, q2_, q3_⟩
        exact ⟨_, rfl, hK.out _ _ ⟨(by rw [ha.out]; exact putSel_upk 3 hb_ rfl rfl rfl), blk_kept Q_X q3_ NG.out, Q_K.then_ q3_ (fun _ h_ => .inl h_), q2_, fun h_ => absurd ((up_self b_ 5).symm.trans h_) (by decide), fun _ _ => q1_, fun h_ _ => absurd ((hoff 9 (by kernel_rfl)).symm.trans h_) (by decide), fun h_ => absurd ((hoff 12 (by kernel_rfl)).symm.trans h_) (by decide)⟩⟩
       refine steps_cons ?_ ?_
       ·rintro b_ a' w' ⟨ha, Q_X, Q_K, Q_B, Q_0, Q_1, Q_2, Q_3⟩ hb_ hon hoff
        refine ⟨_, rfl, fun K hK => ?_⟩
        have e3 : a'.tmps[3]? = some (.pointer (some ⟨gf, 0, none⟩)) := by rw [ha]; exact (putSel_off rfl).trans rfl
        replace ha := Aside0.mk ha
        have BF1 := blk_kept BGF.out Q_K NE.out.2.2
        have hc0_ : w'.cell? ⟨gf, 0, none⟩ = some (.func (.func 135) #[] #[.pointer (some ⟨gd, 0, none⟩), .pointer (some ⟨gm, 0, none⟩), .pointer (some ⟨gf, 0, none⟩)]) := (blk_cell BF1 0).trans rfl
        refine value_ (w1 := w') (v := .func (.func 135) #[] #[.pointer (some ⟨gd, 0, none⟩), .pointer (some ⟨gm, 0, none⟩), .pointer (some ⟨gf, 0, none⟩)]) (by rfl) rfl ?_ ?_
        ·go_simp
         (try simp only [i64_w])
         try rfl
        exact hK.out _ _ ⟨(by rw [ha.out]; exact putSel_upk 4 hb_ rfl rfl rfl), Q_X, Q_K, Q_B, Q_0, Q_1, Q_2, Q_3⟩
       refine steps_cons ?_ ?_
       ·rintro b_ a' w' ⟨ha, Q_X, Q_K, Q_B, Q_0, Q_1, Q_2, Q_3⟩ hb_ hon hoff
        refine ⟨_, rfl, fun K hK => ?_⟩
        have e36 : a'.tmps[36]? = some (.pointer (some ⟨gb, 2, none⟩)) := by rw [ha]; exact (putSel_off rfl).trans rfl
        replace ha := Aside0.mk ha
        have hc0_ : w'.cell? ⟨gb, 2, none⟩ = some (.int .i64 x.f2) := (blk_cell Q_X 2).trans rfl
        refine value_ (w1 := w') (v := .int .i64 x.f2) (by rfl) rfl ?_ ?_
        ·go_simp
         (try simp only [i64_w])
         try rfl
        exact hK.out _ _ ⟨(by rw [ha.out]; exact putSel_upk 5 hb_ rfl rfl rfl), Q_X, Q_K, Q_B, Q_0, Q_1, Q_2, Q_3⟩
       refine steps_cons ?_ ?_
       ·rintro b_ a' w' ⟨ha, Q_X, Q_K, Q_B, Q_0, Q_1, Q_2, Q_3⟩ hb_ hon hoff
        refine ⟨_, rfl, fun K hK => ?_⟩
        have e35 : a'.tmps[35]? = some (.func (.func 135) #[] #[.pointer (some ⟨gd, 0, none⟩), .pointer (some ⟨gm, 0, none⟩), .pointer (some ⟨gf, 0, none⟩)]) := by rw [ha]; exact putSel_on (e := (6, 35, .func (.func 135) #[] #[.pointer (some ⟨gd, 0, none⟩), .pointer (some ⟨gm, 0, none⟩), .pointer (some ⟨gf, 0, none⟩)])) 4 rfl rfl (hon 6 (by kernel_rfl)) rfl
        have e37 : a'.tmps[37]? = some (.int .i64 x.f2) := by rw [ha]; exact putSel_on (e := (8, 37, .int .i64 x.f2)) 5 rfl rfl (hon 8 (by kernel_rfl)) rfl
        replace ha := Aside0.mk ha
        have QM_ := Q_1 (hon 5 (by kernel_rfl)) hb_
        refine Pv.goesV 135 #[.pointer (some ⟨gd, 0, none⟩), .pointer (some ⟨gm, 0, none⟩), .pointer (some ⟨gf, 0, none⟩)] eg #[.int .i64 x.f2] (by rfl) rfl rfl (by first | (simp only [Act.eval, Array.getD_eq_getD_getElem?, Option.getD_some, e35]; done) | (simp only [Act.eval, Array.getD_eq_getD_getElem?, Option.getD_some, e35]; rfl)) (by first | (simp only [List.map_toArray, List.map_cons, List.map_nil, Act.eval, Array.getD_eq_getD_getElem?, Option.getD_some, e37]; done) | (simp only [List.map_toArray, List.map_cons, List.map_nil, Act.eval, Array.getD_eq_getD_getElem?, Option.getD_some, e37]; rfl)) ?_
        with_reducible refine (IH.out vars L x.f2 m1 m2 r2 (some ad) c gd gm gf mb w0 _ Q_B (blk_kept BGD.out Q_K NE.out.1) (blk_kept BGM.out Q_K NE.out.2.1) (blk_kept BGF.out Q_K NE.out.2.2) QM_ MB.out (fun W_ hk_ => HC.out W_ (Q_K.then_ hk_ (fun _ h_ => .inl h_))) HL.out P2.out).mono ?_
        rintro e w10 ⟨rfl, q1_, q2_, q3_⟩
        exact ⟨_, rfl, hK.out _ _ ⟨(by rw [ha.out]; exact putSel_upk 6 hb_ rfl rfl rfl), blk_kept Q_X q3_ NG.out, Q_K.then_ q3_ (fun _ h_ => .inl h_), q2_, fun h_ => absurd ((hon 5 (by kernel_rfl)).symm.trans h_) (by decide), fun _ h_ => absurd ((up_self b_ 9).symm.trans h_) (by decide), fun _ _ => q1_, fun h_ => absurd ((hoff 12 (by kernel_rfl)).symm.trans h_) (by decide)⟩⟩
       refine steps_cons ?_ ?_
       ·rintro b_ a' w' ⟨ha, Q_X, Q_K, Q_B, Q_0, Q_1, Q_2, Q_3⟩ hb_ hon hoff
        refine ⟨_, rfl, fun K hK => ?_⟩
        have e34 : a'.tmps[34]? = some (.int .i64 r1) := by rw [ha]; exact putSel_on (e := (5, 34, .int .i64 r1)) 3 rfl rfl (hon 5 (by kernel_rfl)) rfl
        have e38 : a'.tmps[38]? = some (.int .i64 r2) := by rw [ha]; exact putSel_on (e := (9, 38, .int .i64 r2)) 6 rfl rfl (hon 9 (by kernel_rfl)) rfl
        replace ha := Aside0.mk ha
        have hw_ : (IntKind.i64.wrap (r1 + r2)) = sm := (i64_w _).trans SM.out
        have hw2_ := SM.out
        refine value_ (w1 := w') (v := .int .i64 sm) (by rfl) rfl ?_ ?_
        ·go_simp
         (try simp only [i64_w])
         (try rw [hw2_])
         try rfl
        exact hK.out _ _ ⟨(by rw [ha.out]; exact putSel_upk 7 hb_ rfl rfl rfl), Q_X, Q_K, Q_B, Q_0, Q_1, Q_2, Q_3⟩
       refine steps_cons ?_ ?_
       ·rintro b_ a' w' ⟨ha, Q_X, Q_K, Q_B, Q_0, Q_1, Q_2, Q_3⟩ hb_ hon hoff
        refine ⟨_, rfl, fun K hK => ?_⟩
        have e39 : a'.tmps[39]? = some (.int .i64 sm) := by rw [ha]; exact putSel_on (e := (10, 39, .int .i64 sm)) 7 rfl rfl (hon 10 (by kernel_rfl)) rfl
        replace ha := Aside0.mk ha
        have hw_ : (IntKind.i64.wrap (sm.tdiv 2)) = r := (i64_w _).trans R3.out
        have hw2_ := R3.out
        refine value_ (w1 := w') (v := .int .i64 r) (by rfl) rfl ?_ ?_
        ·go_simp
         (try simp only [i64_w])
         (try rw [hw2_])
         try rfl
        exact hK.out _ _ ⟨(by rw [ha.out]; exact putSel_upk 8 hb_ rfl rfl rfl), Q_X, Q_K, Q_B, Q_0, Q_1, Q_2, Q_3⟩
       refine steps_cons ?_ ?_
       ·rintro b_ a' w' ⟨ha, Q_X, Q_K, Q_B, Q_0, Q_1, Q_2, Q_3⟩ hb_ hon hoff
        refine ⟨_, rfl, fun K hK => ?_⟩
        have e29 : a'.tmps[29]? = some (.map (some mb)) := by rw [ha]; exact putSel_on (e := (0, 29, .map (some mb))) 0 rfl rfl (hon 0 (by kernel_rfl)) rfl
        have e40 : a'.tmps[40]? = some (.int .i64 r) := by rw [ha]; exact putSel_on (e := (11, 40, .int .i64 r)) 8 rfl rfl (hon 11 (by kernel_rfl)) rfl
        have e30 : a'.tmps[30]? = some (.int .i64 n) := by rw [ha]; exact (putSel_off rfl).trans rfl
        have h9 := hon 9 (by kernel_rfl)
        replace ha := Aside0.mk ha
        obtain ⟨w1, hrun, r1_, r2_, r3_⟩ := (Q_2 h9 hb_).store (P := Try.prog) keyInt Try.underlying135 C3.out r
        rw [M3.out] at r1_
        refine skip_ (w1 := w1) (by rfl) rfl ?_ ?_
        ·have q1_ : a'.eval (.tmp 29) = .map (some mb) := by simp only [Act.eval, Array.getD_eq_getD_getElem?, e29]; rfl
         have q2_ : a'.eval (.tmp 30) = .int .i64 n := by simp only [Act.eval, Array.getD_eq_getD_getElem?, e30]; rfl
         have q3_ : a'.eval (.tmp 40) = .int .i64 r := by simp only [Act.eval, Array.getD_eq_getD_getElem?, e40]; rfl
         simp [execOp, q1_, q2_, q3_, hrun, Result.andThen]
        exact hK.out _ _ ⟨(by rw [ha.out]; exact putSel_none (v := undef) rfl), (r2_.block gb (blk_lt Q_X) (fun e_ => NG.out (by cases e_; rfl))).trans Q_X, Kept.of_grown r2_ Q_K (fun k_ e_ => by cases e_; exact .inl rfl), Q_B.grown r2_ Q_B.size (fun k_ e_ => by cases e_; exact MB.out), fun h_ => absurd ((hon 5 (by kernel_rfl)).symm.trans h_) (by decide), fun _ h_ => absurd (h9.symm.trans h_) (by decide), fun _ h_ => absurd ((up_self b_ 12).symm.trans h_) (by decide), fun _ => r1_⟩
       exact steps_nil
      rintro b_ a' w9 hall ⟨ha, Q_X, Q_K, Q_B, Q_0, Q_1, Q_2, Q_3⟩
      have hb0_ := hall 0 (by kernel_rfl)
      have hb2_ := hall 2 (by kernel_rfl)
      have hb4_ := hall 4 (by kernel_rfl)
      have hb5_ := hall 5 (by kernel_rfl)
      have hb6_ := hall 6 (by kernel_rfl)
      have hb8_ := hall 8 (by kernel_rfl)
      have hb9_ := hall 9 (by kernel_rfl)
      have hb10_ := hall 10 (by kernel_rfl)
      have hb11_ := hall 11 (by kernel_rfl)
      have hb12_ := hall 12 (by kernel_rfl)
      subst ha
      simp only [putSel, hb0_, hb2_, hb4_, hb5_, hb6_, hb8_, hb9_, hb10_, hb11_, if_true, Act.put, List.setIfInBounds_toArray, List.set_cons_zero, List.set_cons_succ]
      have M9 := Aside0.mk (Q_3 hb12_)
      have K9 := Aside0.mk Q_K
      have B9 := Aside0.mk Q_B
      have m90 : w9.cell? ⟨gm, 0, none⟩ = some (.map (some mb)) := (blk_cell (blk_kept BGM.out K9.out NE.out.2.1) 0).trans rfl
      have s9 : m' n = some r := by rw [← M3.out]; simp
      clear hall hb0_ hb2_ hb4_ hb5_ hb6_ hb8_ hb9_ hb10_ hb11_ hb12_ Q_X Q_K Q_B Q_0 Q_1 Q_2 Q_3 n1_ n2_ n3_ n4_ m0
      go_wp2_with ((with_reducible refine gate_ (op := .lookup 135 (.tmp 41) (.tmp 42) false) rfl ?_); refine Mp.at_some rfl (.tmp 41) (.tmp 42) rfl rfl M9.out keyInt Try.underlying135 zero_int n rfl C3.out s9 ?_)
      go_ret
      exact ⟨rfl, M9.out, B9.out, K9.out⟩
     ·rw [if_neg c5] at h
      cases h
    ·rw [if_neg c4] at h
     cases h
  ·rw [if_neg c3] at h
   cases h
set_option maxHeartbeats 8000000 in
set_option maxRecDepth 100000 in
theorem impl_Diagram_count.calls (k : Nat) (a0_0 : Int) (A0_1 : Option Addr) (c0_1 : Nat) (l0_1 : List S56) (a1 : Int) (r : Int) (w : World) (hr : Kd.C k56 w A0_1 l0_1.length l0_1) (hc : l0_1.length ≤ c0_1) (h : impl_Diagram_count.f k a0_0 l0_1 a1 = some r) :
  Calls Try.prog 102 #[.agg #[.int .i64 a0_0, .slice A0_1 l0_1.length c0_1], .int .i64 a1] w fun e w' => e = .returned (.int .i64 r) ∧ Below w.heap.size w w' := by
 have eg : ∀ args w, (callFunc 135 args).run Try.prog w = .ok (.enter 135 args) w := enters_of Try.func135 (by kernel_rfl) rfl
 have hu25 := Try.underlying48
 obtain ⟨⟨m', r'⟩, hp, h2⟩ := Option.bind_eq_some_iff.mp h
 simp only [Option.some.injEq] at h2
 subst h2
 have HR := Aside0.mk hr
 have HC := Aside0.mk hc
 have P1 := Aside0.mk hp
 clear hr hc h hp
 go_enter Try.func102, Try.ntmps102
 go_wp2_with (first | ((with_reducible refine gate_dst (N := 2) rfl ?_); refine box_event ?hg (N := 2) ?hd (cs := #[.int .i64 a0_0, .slice A0_1 l0_1.length c0_1]) (t := 48) ?hr ?_; (case hd => rfl); (case hg => rfl); (case hr => first | (go_simp; done) | (go_simp; rfl)); intro gd hg_ w1 hbox hb; have BD1 := Aside0.mk hbox; have HB1 := Aside0.mk hb; clear hg_ hbox hb) | ((with_reducible refine gate_ (op := .makeMap 135 none) rfl ?_); refine Mp.made_event rfl (N := 7) rfl 135 rfl (Value.int .i64) KeyI (Value.int .i64) ?_; intro mb hmb w2 hM_ hb; have HMB := Aside0.mk (show w.heap.size ≤ mb by rw [hmb]; exact HB1.out.size); have HM2 := Aside0.mk hM_; have BD2 := Aside0.mk (blk_below BD1.out hb); have HB2 := Aside0.mk (below_step HB1.out hb); clear hmb hM_ hb) | ((with_reducible refine gate_dst (N := 5) rfl ?_); refine box_event ?hg (N := 5) ?hd (cs := #[.map none]) (t := 135) ?hr ?_; (case hd => rfl); (case hg => rfl); (case hr => first | (go_simp; done) | (go_simp; rfl)); intro gm hg_ w3 hbox hb; have HGM := Aside0.mk (show w.heap.size ≤ gm ∧ gm ≠ mb ∧ gm ≠ gd from ⟨by rw [hg_]; exact HB2.out.size, fun e_ => by have := HM2.out.lt; omega, fun e_ => by have := blk_lt BD2.out; omega⟩); have BM3 := Aside0.mk hbox; have BD3 := Aside0.mk (blk_below BD2.out hb); have HM3 := Aside0.mk (HM2.out.below hb); have HB3 := Aside0.mk (below_step HB2.out hb); have hz0 : w3.cell? ⟨gm, 0, none⟩ = some (.map none) := (blk_cell BM3.out 0).trans rfl; have hy0 := blk_frozen BM3.out 0; clear hg_ hbox hb) | ((with_reducible refine gate_dst (N := 6) rfl ?_); refine box_event ?hg (N := 6) ?hd (cs := #[.nilFunc]) (t := 93) ?hr ?_; (case hd => rfl); (case hg => rfl); (case hr => first | (go_simp; done) | (go_simp; rfl)); intro gf hg_ w4 hbox hb; have BF4 := Aside0.mk hbox; have BM4 := Aside0.mk (blk_below (blk_put BM3.out 0 (.map (some mb)) rfl) hb); have BD4 := Aside0.mk (blk_below (blk_far (p := ⟨gm, 0, none⟩) BD3.out HGM.out.2.2.symm (.map (some mb))) hb); have HM4 := Aside0.mk ((HM3.out.far (p := ⟨gm, 0, none⟩) HGM.out.2.1.symm (.map (some mb))).below hb); have HB4 := Aside0.mk (below_step (below_set HB3.out HGM.out.1 (j := 0) (v := .map (some mb))) hb); have LM_ := (HM3.out.far (p := ⟨gm, 0, none⟩) HGM.out.2.1.symm (.map (some mb))).lt; have LD_ := blk_lt (blk_far (p := ⟨gm, 0, none⟩) BD3.out HGM.out.2.2.symm (.map (some mb))); have LG_ := blk_lt (blk_put BM3.out 0 (.map (some mb)) rfl); have HGF := Aside0.mk (show w.heap.size ≤ gf ∧ gf ≠ mb ∧ gf ≠ gd ∧ gf ≠ gm from ⟨by rw [hg_]; exact (below_set HB3.out HGM.out.1 (j := 0) (v := .map (some mb))).size, by rw [hg_]; exact Nat.ne_of_gt LM_, by rw [hg_]; exact Nat.ne_of_gt LD_, by rw [hg_]; exact Nat.ne_of_gt LG_⟩); have hz1 : w4.cell? ⟨gf, 0, none⟩ = some .nilFunc := (blk_cell BF4.out 0).trans rfl; have hy1 := blk_frozen BF4.out 0; clear hg_ hbox hb LM_ LD_ LG_) | (go_at_fn 135; have QB := below_set HB4.out HGF.out.1 (j := 0) (v := .func (.func 135) #[] #[.pointer (some ⟨gd, 0, none⟩), .pointer (some ⟨gm, 0, none⟩), .pointer (some ⟨gf, 0, none⟩)]); have QC := (fun W_ hk_ => Kd.C_kept_came (Kd.heap_iso _ (Kd.heap_pair (Kd.heap_int .i64) (Kd.heap_pair (Kd.heap_int .i64) (Kd.heap_int .i64)))) HR.out QB (fun k_ (e_ : k_ = mb) => by rw [e_]; exact HMB.out) W_ hk_); refine (impl_Diagram_count.cl_calls eg k a0_0 l0_1 a1 (fun _ => none) m' r' A0_1 c0_1 gd gm gf mb w _ QB (blk_far (p := ⟨gf, 0, none⟩) BD4.out HGF.out.2.2.1.symm _) (blk_far (p := ⟨gf, 0, none⟩) BM4.out HGF.out.2.2.2.symm _) (blk_put BF4.out 0 _ rfl) (HM4.out.far (p := ⟨gf, 0, none⟩) HGF.out.2.1.symm _) HMB.out QC HC.out P1.out).mono ?_; rintro e w9 ⟨rfl, hm_, hb_, hk_⟩; have HB9 := Aside0.mk hb_; clear hm_ hb_ hk_ QB QC))
 go_ret
 exact ⟨rfl, HB9.out⟩

/-! ### impl_DiagramCount: function 45 -/
def impl_DiagramCount.f (k : Nat) (a0_0 : Int) (l0_1 : List (S56)) (a1 : Int) : Option (Int) := (impl_DiagramValid.f a0_0 l0_1).bind fun t292 => (if t292 = true then ((impl_Diagram_isPlace.f a0_0 l0_1 a1).bind fun t293 => (if t293 = true then ((impl_Diagram_count.f k a0_0 l0_1 a1).bind fun t294 => (some t294)) else (some (-1)))) else (some (-1)))
theorem impl_DiagramCount.mono : ∀ a0 a1 a2 k, LeO (impl_DiagramCount.f k a0 a1 a2) (impl_DiagramCount.f (k + 1) a0 a1 a2) := by
 intro a0 a1 a2 k
 unfold impl_DiagramCount.f
 repeat' first
   | (with_reducible exact impl_Diagram_count.mono _ _ _ _)
   | (with_reducible exact LeO.refl _)
   | (with_reducible exact LeO.none _)
   | (with_reducible refine LeO.ite ?_ ?_)
   | (with_reducible refine LeO.bind ?_ (fun _ => ?_))
set_option maxHeartbeats 8000000 in
set_option maxRecDepth 100000 in
theorem impl_DiagramCount.calls (k : Nat) (a0_0 : Int) (A0_1 : Option Addr) (c0_1 : Nat) (l0_1 : List (S56)) (a1 : Int) (r : Int) (w : World) (hr0_1 : Kd.C k56 w A0_1 l0_1.length l0_1) (hc0_1 : l0_1.length ≤ c0_1) (h : impl_DiagramCount.f k a0_0 l0_1 a1 = some r) :
  Calls Try.prog 45 #[.agg #[.int .i64 a0_0, .slice A0_1 l0_1.length c0_1], .int .i64 a1] w fun e w' => e = .returned (.int .i64 r) ∧ Below w.heap.size w w' := by
 have hu48 := Try.underlying48
 have HR0_1 := Aside0.mk hr0_1
 have HC0_1 := Aside0.mk hc0_1
 clear hr0_1 hc0_1
 have HB := Aside0.mk (Below.refl w.heap.size w)
 have H : ((impl_DiagramValid.f a0_0 l0_1).bind fun t292 => (if t292 = true then ((impl_Diagram_isPlace.f a0_0 l0_1 a1).bind fun t293 => (if t293 = true then ((impl_Diagram_count.f k a0_0 l0_1 a1).bind fun t294 => (some t294)) else (some (-1)))) else (some (-1)))) = some r := h
 clear h
 replace H := Option.bind_eq_some_iff.mp H
 obtain ⟨t292, A30, H⟩ := H
 replace H : (if t292 = true then ((impl_Diagram_isPlace.f a0_0 l0_1 a1).bind fun t293 => (if t293 = true then ((impl_Diagram_count.f k a0_0 l0_1 a1).bind fun t294 => (some t294)) else (some (-1)))) else (some (-1))) = some r := H
 have A3 := Aside0.mk A30
 clear A30
 by_cases c4 : t292 = true
 ·subst c4
  have H1 : ((impl_Diagram_isPlace.f a0_0 l0_1 a1).bind fun t293 => (if t293 = true then ((impl_Diagram_count.f k a0_0 l0_1 a1).bind fun t294 => (some t294)) else (some (-1)))) = some r := by rw [if_pos rfl] at H; exact H
  clear H
  have H := H1
  clear H1
  replace H := Option.bind_eq_some_iff.mp H
  obtain ⟨t293, A50, H⟩ := H
  replace H : (if t293 = true then ((impl_Diagram_count.f k a0_0 l0_1 a1).bind fun t294 => (some t294)) else (some (-1))) = some r := H
  have A5 := Aside0.mk A50
  clear A50
  by_cases c6 : t293 = true
  ·subst c6
   have H1 : ((impl_Diagram_count.f k a0_0 l0_1 a1).bind fun t294 => (some t294)) = some r := by rw [if_pos rfl] at H; exact H
   clear H
   have H := H1
   clear H1
   replace H := Option.bind_eq_some_iff.mp H
   obtain ⟨t294, A70, H⟩ := H
   replace H : (some t294) = some r := H
   have A7 := Aside0.mk A70
   clear A70
   obtain rfl := Option.some.inj H
   go_enter Try.func45, Try.ntmps45
   go_wp2_with (first | ((with_reducible refine gate_dst (N := 2) rfl ?_); refine box_event ?hg (N := 2) ?hd (cs := #[.int .i64 a0_0, .slice A0_1 l0_1.length c0_1]) (t := 48) ?hr ?_; (case hd => rfl); (case hg => rfl); (case hr => first | (go_simp; done) | (go_simp; rfl)); intro gb291 hg w8 hbox hb; have n0_ := Aside0.mk (below_step (by repeat (first | (with_reducible first | exact HB.out | apply bwA | apply bwN | apply bwD) | exact HB.out)) hb); have n1_ := Aside0.mk (hbox); have n2_ := Aside0.mk ((by rw [hg]; exact (below_size (by repeat (first | (with_reducible first | exact HB.out | apply bwA | apply bwN | apply bwD) | exact HB.out))) : w.heap.size ≤ gb291)); have n3_ := Aside0.mk ((by rw [hg]; exact (below_size (by repeat (first | (with_reducible first | exact HB.out | apply bwA | apply bwN | apply bwD) | exact HB.out))) : w.heap.size ≤ gb291)); clear HB; have HB := n0_; have BK291 := n1_; have GW291 := n2_; have GE291 := n3_; clear n0_ n1_ n2_ n3_; clear hb hbox hg; have hcz9_0 : w8.cell? ⟨gb291, 0, none⟩ = some (.int .i64 a0_0) := (blk_cell BK291.out 0).trans rfl; have hcz9_1 : w8.cell? ⟨gb291, 1, none⟩ = some (.slice A0_1 l0_1.length c0_1) := (blk_cell BK291.out 1).trans rfl; have hfz9_0 := blk_frozen BK291.out 0; have hfz9_1 := blk_frozen BK291.out 1) | ((with_reducible refine gate_callee (f := 44) rfl ?_); refine goesL_ (some 6) rfl rfl Try.func44 (by kernel_rfl) rfl #[.agg #[.int .i64 a0_0, .slice A0_1 l0_1.length c0_1]] rfl lmB ?_; (with_reducible refine (impl_DiagramValid.calls a0_0 _ _ l0_1 true _ ?side1 ?side2 A3.out).mono ?_); (case side1 => repeat (first | exact (Kd.C_below HR0_1.out HB.out) | (with_reducible refine Kd.C_alloc ?_ _) | (with_reducible refine Kd.C_drewN ?_ _) | (with_reducible refine Kd.C_drew ?_))); (case side2 => exact HC0_1.out); rintro e w10 ⟨rfl, hb⟩; refine ⟨_, rfl, ?_⟩; have n0_ := Aside0.mk (blk_below (g := gb291) (o := .cells #[.int .i64 a0_0, .slice A0_1 l0_1.length c0_1] 48 (0, 0)) (bvK BK291.out) hb); have n1_ := Aside0.mk (below_step (by repeat (first | (with_reducible first | exact HB.out | apply bwA | apply bwN | apply bwD | refine below_set ?_ GE291.out) | exact HB.out)) hb); clear BK291; clear HB; have BK291 := n0_; have HB := n1_; clear n0_ n1_; (try clear hb); (try clear hb2); (try clear hk); (try clear hi); have hcz11_0 : w10.cell? ⟨gb291, 0, none⟩ = some (.int .i64 a0_0) := (blk_cell BK291.out 0).trans rfl; have hcz11_1 : w10.cell? ⟨gb291, 1, none⟩ = some (.slice A0_1 l0_1.length c0_1) := (blk_cell BK291.out 1).trans rfl; have hfz11_0 := blk_frozen BK291.out 0; have hfz11_1 := blk_frozen BK291.out 1) | (go_at_call 85; (with_reducible refine (impl_Diagram_isPlace.calls a0_0 _ _ l0_1 a1 true _ ?side1 ?side2 A5.out).mono ?_); (case side1 => repeat (first | exact (Kd.C_below HR0_1.out HB.out) | (with_reducible refine Kd.C_alloc ?_ _) | (with_reducible refine Kd.C_drewN ?_ _) | (with_reducible refine Kd.C_drew ?_))); (case side2 => exact HC0_1.out); rintro e w12 ⟨rfl, hb⟩; have n0_ := Aside0.mk (blk_below (g := gb291) (o := .cells #[.int .i64 a0_0, .slice A0_1 l0_1.length c0_1] 48 (0, 0)) (bvK BK291.out) hb); have n1_ := Aside0.mk (below_step (by repeat (first | (with_reducible first | exact HB.out | apply bwA | apply bwN | apply bwD | refine below_set ?_ GE291.out) | exact HB.out)) hb); clear BK291; clear HB; have BK291 := n0_; have HB := n1_; clear n0_ n1_; (try clear hb); (try clear hb2); (try clear hk); (try clear hi); have hcz13_0 : w12.cell? ⟨gb291, 0, none⟩ = some (.int .i64 a0_0) := (blk_cell BK291.out 0).trans rfl; have hcz13_1 : w12.cell? ⟨gb291, 1, none⟩ = some (.slice A0_1 l0_1.length c0_1) := (blk_cell BK291.out 1).trans rfl; have hfz13_0 := blk_frozen BK291.out 0; have hfz13_1 := blk_frozen BK291.out 1) | ((with_reducible refine gate_callee (f := 102) rfl ?_); refine goesL_ (some 16) rfl rfl Try.func102 (by kernel_rfl) rfl #[.agg #[.int .i64 a0_0, .slice A0_1 l0_1.length c0_1], .int .i64 a1] rfl lmB ?_; (with_reducible refine (impl_Diagram_count.calls k a0_0 _ _ l0_1 a1 t294 _ ?side1 ?side2 A7.out).mono ?_); (case side1 => repeat (first | exact (Kd.C_below HR0_1.out HB.out) | (with_reducible refine Kd.C_alloc ?_ _) | (with_reducible refine Kd.C_drewN ?_ _) | (with_reducible refine Kd.C_drew ?_))); (case side2 => exact HC0_1.out); rintro e w14 ⟨rfl, hb⟩; refine ⟨_, rfl, ?_⟩; have n0_ := Aside0.mk (blk_below (g := gb291) (o := .cells #[.int .i64 a0_0, .slice A0_1 l0_1.length c0_1] 48 (0, 0)) (bvK BK291.out) hb); have n1_ := Aside0.mk (below_step (by repeat (first | (with_reducible first | exact HB.out | apply bwA | apply bwN | apply bwD | refine below_set ?_ GE291.out) | exact HB.out)) hb); clear BK291; clear HB; have BK291 := n0_; have HB := n1_; clear n0_ n1_; (try clear hb); (try clear hb2); (try clear hk); (try clear hi)))
   go_ret
   exact ⟨ers, by repeat (first | (with_reducible first | exact HB.out | apply bwA | apply bwN | apply bwD | refine below_set ?_ GE291.out) | exact HB.out)⟩
  ·replace c6 := Bool.eq_false_iff.mpr c6
   subst c6
   have H1 : (some (-1)) = some r := by rw [if_neg (show ¬ (false = true) by decide)] at H; exact H
   clear H
   have H := H1
   clear H1
   obtain rfl := Option.some.inj H
   go_enter Try.func45, Try.ntmps45
   go_wp2_with (first | ((with_reducible refine gate_dst (N := 2) rfl ?_); refine box_event ?hg (N := 2) ?hd (cs := #[.int .i64 a0_0, .slice A0_1 l0_1.length c0_1]) (t := 48) ?hr ?_; (case hd => rfl); (case hg => rfl); (case hr => first | (go_simp; done) | (go_simp; rfl)); intro gb291 hg w15 hbox hb; have n0_ := Aside0.mk (below_step (by repeat (first | (with_reducible first | exact HB.out | apply bwA | apply bwN | apply bwD) | exact HB.out)) hb); have n1_ := Aside0.mk (hbox); have n2_ := Aside0.mk ((by rw [hg]; exact (below_size (by repeat (first | (with_reducible first | exact HB.out | apply bwA | apply bwN | apply bwD) | exact HB.out))) : w.heap.size ≤ gb291)); have n3_ := Aside0.mk ((by rw [hg]; exact (below_size (by repeat (first | (with_reducible first | exact HB.out | apply bwA | apply bwN | apply bwD) | exact HB.out))) : w.heap.size ≤ gb291)); clear HB; have HB := n0_; have BK291 := n1_; have GW291 := n2_; have GE291 := n3_; clear n0_ n1_ n2_ n3_; clear hb hbox hg; have hcz16_0 : w15.cell? ⟨gb291, 0, none⟩ = some (.int .i64 a0_0) := (blk_cell BK291.out 0).trans rfl; have hcz16_1 : w15.cell? ⟨gb291, 1, none⟩ = some (.slice A0_1 l0_1.length c0_1) := (blk_cell BK291.out 1).trans rfl; have hfz16_0 := blk_frozen BK291.out 0; have hfz16_1 := blk_frozen BK291.out 1) | ((with_reducible refine gate_callee (f := 44) rfl ?_); refine goesL_ (some 6) rfl rfl Try.func44 (by kernel_rfl) rfl #[.agg #[.int .i64 a0_0, .slice A0_1 l0_1.length c0_1]] rfl lmB ?_; (with_reducible refine (impl_DiagramValid.calls a0_0 _ _ l0_1 true _ ?side1 ?side2 A3.out).mono ?_); (case side1 => repeat (first | exact (Kd.C_below HR0_1.out HB.out) | (with_reducible refine Kd.C_alloc ?_ _) | (with_reducible refine Kd.C_drewN ?_ _) | (with_reducible refine Kd.C_drew ?_))); (case side2 => exact HC0_1.out); rintro e w17 ⟨rfl, hb⟩; refine ⟨_, rfl, ?_⟩; have n0_ := Aside0.mk (blk_below (g := gb291) (o := .cells #[.int .i64 a0_0, .slice A0_1 l0_1.length c0_1] 48 (0, 0)) (bvK BK291.out) hb); have n1_ := Aside0.mk (below_step (by repeat (first | (with_reducible first | exact HB.out | apply bwA | apply bwN | apply bwD | refine below_set ?_ GE291.out) | exact HB.out)) hb); clear BK291; clear HB; have BK291 := n0_; have HB := n1_; clear n0_ n1_; (try clear hb); (try clear hb2); (try clear hk); (try clear hi); have hcz18_0 : w17.cell? ⟨gb291, 0, none⟩ = some (.int .i64 a0_0) := (blk_cell BK291.out 0).trans rfl; have hcz18_1 : w17.cell? ⟨gb291, 1, none⟩ = some (.slice A0_1 l0_1.length c0_1) := (blk_cell BK291.out 1).trans rfl; have hfz18_0 := blk_frozen BK291.out 0; have hfz18_1 := blk_frozen BK291.out 1) | (go_at_call 85; (with_reducible refine (impl_Diagram_isPlace.calls a0_0 _ _ l0_1 a1 false _ ?side1 ?side2 A5.out).mono ?_); (case side1 => repeat (first | exact (Kd.C_below HR0_1.out HB.out) | (with_reducible refine Kd.C_alloc ?_ _) | (with_reducible refine Kd.C_drewN ?_ _) | (with_reducible refine Kd.C_drew ?_))); (case side2 => exact HC0_1.out); rintro e w19 ⟨rfl, hb⟩; have n0_ := Aside0.mk (blk_below (g := gb291) (o := .cells #[.int .i64 a0_0, .slice A0_1 l0_1.length c0_1] 48 (0, 0)) (bvK BK291.out) hb); have n1_ := Aside0.mk (below_step (by repeat (first | (with_reducible first | exact HB.out | apply bwA | apply bwN | apply bwD | refine below_set ?_ GE291.out) | exact HB.out)) hb); clear BK291; clear HB; have BK291 := n0_; have HB := n1_; clear n0_ n1_; (try clear hb); (try clear hb2); (try clear hk); (try clear hi)))
   go_ret
   exact ⟨ers, by repeat (first | (with_reducible first | exact HB.out | apply bwA | apply bwN | apply bwD | refine below_set ?_ GE291.out) | exact HB.out)⟩
 ·replace c4 := Bool.eq_false_iff.mpr c4
  subst c4
  have H1 : (some (-1)) = some r := by rw [if_neg (show ¬ (false = true) by decide)] at H; exact H
  clear H
  have H := H1
  clear H1
  obtain rfl := Option.some.inj H
  go_enter Try.func45, Try.ntmps45
  go_wp2_with (first | ((with_reducible refine gate_dst (N := 2) rfl ?_); refine box_event ?hg (N := 2) ?hd (cs := #[.int .i64 a0_0, .slice A0_1 l0_1.length c0_1]) (t := 48) ?hr ?_; (case hd => rfl); (case hg => rfl); (case hr => first | (go_simp; done) | (go_simp; rfl)); intro gb291 hg w20 hbox hb; have n0_ := Aside0.mk (below_step (by repeat (first | (with_reducible first | exact HB.out | apply bwA | apply bwN | apply bwD) | exact HB.out)) hb); have n1_ := Aside0.mk (hbox); have n2_ := Aside0.mk ((by rw [hg]; exact (below_size (by repeat (first | (with_reducible first | exact HB.out | apply bwA | apply bwN | apply bwD) | exact HB.out))) : w.heap.size ≤ gb291)); have n3_ := Aside0.mk ((by rw [hg]; exact (below_size (by repeat (first | (with_reducible first | exact HB.out | apply bwA | apply bwN | apply bwD) | exact HB.out))) : w.heap.size ≤ gb291)); clear HB; have HB := n0_; have BK291 := n1_; have GW291 := n2_; have GE291 := n3_; clear n0_ n1_ n2_ n3_; clear hb hbox hg; have hcz21_0 : w20.cell? ⟨gb291, 0, none⟩ = some (.int .i64 a0_0) := (blk_cell BK291.out 0).trans rfl; have hcz21_1 : w20.cell? ⟨gb291, 1, none⟩ = some (.slice A0_1 l0_1.length c0_1) := (blk_cell BK291.out 1).trans rfl; have hfz21_0 := blk_frozen BK291.out 0; have hfz21_1 := blk_frozen BK291.out 1) | ((with_reducible refine gate_callee (f := 44) rfl ?_); refine goesL_ (some 6) rfl rfl Try.func44 (by kernel_rfl) rfl #[.agg #[.int .i64 a0_0, .slice A0_1 l0_1.length c0_1]] rfl lmB ?_; (with_reducible refine (impl_DiagramValid.calls a0_0 _ _ l0_1 false _ ?side1 ?side2 A3.out).mono ?_); (case side1 => repeat (first | exact (Kd.C_below HR0_1.out HB.out) | (with_reducible refine Kd.C_alloc ?_ _) | (with_reducible refine Kd.C_drewN ?_ _) | (with_reducible refine Kd.C_drew ?_))); (case side2 => exact HC0_1.out); rintro e w22 ⟨rfl, hb⟩; refine ⟨_, rfl, ?_⟩; have n0_ := Aside0.mk (blk_below (g := gb291) (o := .cells #[.int .i64 a0_0, .slice A0_1 l0_1.length c0_1] 48 (0, 0)) (bvK BK291.out) hb); have n1_ := Aside0.mk (below_step (by repeat (first | (with_reducible first | exact HB.out | apply bwA | apply bwN | apply bwD | refine below_set ?_ GE291.out) | exact HB.out)) hb); clear BK291; clear HB; have BK291 := n0_; have HB := n1_; clear n0_ n1_; (try clear hb); (try clear hb2); (try clear hk); (try clear hi)))
  go_ret
  exact ⟨ers, by repeat (first | (with_reducible first | exact HB.out | apply bwA | apply bwN | apply bwD | refine below_set ?_ GE291.out) | exact HB.out)⟩

/-! ### impl_clone_int: function 70 -/
def impl_clone_int.f (l0 : List Int) : Option (List Int) := if l0.length ≤ 35184372088832 then some l0 else none
set_option maxHeartbeats 400000 in
set_option maxRecDepth 100000 in
theorem impl_clone_int.calls (A0 : Option Addr) (c0 : Nat) (l0 : List Int) (r : List Int) (w : World) (hr0 : Kd.C (Kd.int .i64) w A0 l0.length l0) (hc0 : l0.length ≤ c0) (h : impl_clone_int.f l0 = some r) :
  Calls Try.prog 70 #[.slice A0 l0.length c0] w fun e w' => ∃ v0_ : Value, e = .returned (v0_) ∧ Kd.R (Kd.int .i64) 3 w' w.heap.size (fun _ => True) v0_ r ∧ Below w.heap.size w w' := by
 unfold impl_clone_int.f at h
 by_cases c1 : l0.length ≤ 35184372088832
 ·rw [if_pos c1] at h
  obtain rfl := Option.some.inj h
  clear h
  have HR0 := Aside0.mk hr0
  have C1 := Aside0.mk c1
  clear hr0 c1
  by_cases c2 : l0.length = 0
  ·have c2b : ((l0.length : Int) == 0) = true := by rw [beq_iff_eq]; omega
   have HL := Aside0.mk (List.eq_nil_of_length_eq_zero c2)
   clear c2
   go_enter Try.func70, Try.ntmps70
   go_wp2
   go_ret
   exact ⟨_, rfl, by rw [HL.out]; exact Kd.R_nil _ _ _ _ _, Below.refl _ _⟩
  ·have c2b : ((l0.length : Int) == 0) = false := by rw [beq_eq_false_iff_ne]; omega
   have c2c : (l0.length == 0) = false := by rw [beq_eq_false_iff_ne]; omega
   go_enter Try.func70, Try.ntmps70
   go_wp2_with (first | ((with_reducible refine gate_dst (N := 9) rfl ?_); refine Kd.R_make (Kd.int .i64) _ 3 rfl (N := 9) rfl 38 _ _ rfl (l0.length : Int) rfl rfl Try.underlying38 (.int .i64 0) 8 info3 rfl (by decide) (by omega) 0 (ok := fun _ => True) (okp := fun _ => True) rfl (fun _ hk => hk) trivial (by omega) (by have := C1.out; omega) (Below.refl _ _) (Nat.le_refl _) ?_; intro v178 w4 ho5 hb hg_ hnew_; clear hg_ hnew_; have HO := Aside0.mk ho5; have HB := Aside0.mk hb; clear hb ho5) | ((with_reducible refine gate_dst (N := 12) rfl ?_); refine Copy.R_copy (w0 := w) (xs := List.replicate (l0.length : Int).toNat 0) (ys := l0) w.heap.size 3 rfl _ _ 38 38 rfl Try.underlying38 (by kernel_rfl) rfl rfl (by simp) HO.out (Kd.C_below HR0.out HB.out) HB.out ?_; intro w5 ho5 hb; clear HB; have HO5 := Aside0.mk ho5; have HB := Aside0.mk hb; clear hb ho5))
   go_ret
   exact ⟨_, rfl, HO5.out, HB.out⟩
 ·rw [if_neg c1] at h
  exact absurd h (by simp)

/-! ### impl_DiagramRow: function 46 -/
mutual
def impl_DiagramRow.j0 : Nat → Int → Bool → Int → List (S56) → Option (List Int)
 | 0, _, _, _, _ => none
 | k + 1, x1, x19, x296000, x296001 => if x19 = true then (some ([] : List Int)) else (if 0 ≤ x296000 then (if (x296000 : Int).toNat ≤ 35184372088832 then (impl_DiagramRow.l0 k x1 (List.replicate (x296000 : Int).toNat 0) x296000 x296001) else (none)) else (none))
def impl_DiagramRow.l0 : Nat → Int → List Int → Int → List (S56) → Option (List Int)
 | 0, _, _, _, _ => none
 | k + 1, x1, x5, x296000, x296001 => if x1 ≥ 2 then (if 0 ≤ (wrap64 (x1 - 2)) then (if (wrap64 (x1 - 2)) < (x296001.length : Int) then (if ((rd_T56 x296001 (wrap64 (x1 - 2))).f1) = 0 then (if 0 ≤ ((rd_T56 x296001 (wrap64 (x1 - 2))).f0) then (if ((rd_T56 x296001 (wrap64 (x1 - 2))).f0) < (x5.length : Int) then (impl_DiagramRow.l0 k ((rd_T56 x296001 (wrap64 (x1 - 2))).f2) (x5.set (((rd_T56 x296001 (wrap64 (x1 - 2))).f0) : Int).toNat 1) x296000 x296001) else (none)) else (none)) else (impl_DiagramRow.l0 k ((rd_T56 x296001 (wrap64 (x1 - 2))).f1) x5 x296000 x296001)) else (none)) else (none)) else ((impl_clone_int.f x5).bind fun t304 => (some t304))
end
def impl_DiagramRow.f (k : Nat) (a0_0 : Int) (l0_1 : List (S56)) (a1 : Int) : Option (List Int) := (impl_DiagramValid.f a0_0 l0_1).bind fun t296 => (if t296 = true then ((impl_Diagram_isPlace.f a0_0 l0_1 a1).bind fun t297 => (if t297 = true then (impl_DiagramRow.j0 k a1 (a1 == 0) a0_0 l0_1) else (impl_DiagramRow.j0 k a1 true a0_0 l0_1))) else (impl_DiagramRow.j0 k a1 true a0_0 l0_1))
theorem impl_DiagramRow.mono_l : ∀ k, (∀ y0 y1 y2 y3, LeO (impl_DiagramRow.j0 k y0 y1 y2 y3) (impl_DiagramRow.j0 (k + 1) y0 y1 y2 y3)) ∧ (∀ y0 y1 y2 y3, LeO (impl_DiagramRow.l0 k y0 y1 y2 y3) (impl_DiagramRow.l0 (k + 1) y0 y1 y2 y3))
 | 0 => ⟨fun _ _ _ _ r h => by simp [impl_DiagramRow.j0] at h, fun _ _ _ _ r h => by simp [impl_DiagramRow.l0] at h⟩
 | k + 1 => by
  obtain ⟨ih0, ih1⟩ := impl_DiagramRow.mono_l k
  refine ⟨?_, ?_⟩
  ·intro y0 y1 y2 y3
   unfold impl_DiagramRow.j0
   repeat' first
   | (with_reducible exact ih0 _ _ _ _)
   | (with_reducible exact ih1 _ _ _ _)
   | (with_reducible exact LeO.refl _)
   | (with_reducible exact LeO.none _)
   | (with_reducible refine LeO.ite ?_ ?_)
   | (with_reducible refine LeO.bind ?_ (fun _ => ?_))
  ·intro y0 y1 y2 y3
   unfold impl_DiagramRow.l0
   repeat' first
   | (with_reducible exact ih0 _ _ _ _)
   | (with_reducible exact ih1 _ _ _ _)
   | (with_reducible exact LeO.refl _)
   | (with_reducible exact LeO.none _)
   | (with_reducible refine LeO.ite ?_ ?_)
   | (with_reducible refine LeO.bind ?_ (fun _ => ?_))
theorem impl_DiagramRow.mono : ∀ a0 a1 a2 k, LeO (impl_DiagramRow.f k a0 a1 a2) (impl_DiagramRow.f (k + 1) a0 a1 a2) := by
 intro a0 a1 a2 k
 obtain ⟨ih0, ih1⟩ := impl_DiagramRow.mono_l k
 unfold impl_DiagramRow.f
 repeat' first
   | (with_reducible exact ih0 _ _ _ _)
   | (with_reducible exact ih1 _ _ _ _)
   | (with_reducible exact LeO.refl _)
   | (with_reducible exact LeO.none _)
   | (with_reducible refine LeO.ite ?_ ?_)
   | (with_reducible refine LeO.bind ?_ (fun _ => ?_))
set_option maxHeartbeats 8000000 in
set_option maxRecDepth 100000 in
theorem impl_DiagramRow.calls (k : Nat) (a0_0 : Int) (A0_1 : Option Addr) (c0_1 : Nat) (l0_1 : List (S56)) (a1 : Int) (r : List Int) (w : World) (hr0_1 : Kd.C k56 w A0_1 l0_1.length l0_1) (hc0_1 : l0_1.length ≤ c0_1) (h : impl_DiagramRow.f k a0_0 l0_1 a1 = some r) :
  Calls Try.prog 46 #[.agg #[.int .i64 a0_0, .slice A0_1 l0_1.length c0_1], .int .i64 a1] w fun e w' => ∃ v0_ : Value, e = .returned (v0_) ∧ Kd.R (Kd.int .i64) 3 w' w.heap.size (fun _ => True) v0_ r ∧ Below w.heap.size w w' := by
 have hu48 := Try.underlying48
 have hu56 := Try.underlying56
 have HR0_1 := Aside0.mk hr0_1
 have HC0_1 := Aside0.mk hc0_1
 clear hr0_1 hc0_1
 have HB := Aside0.mk (Below.refl w.heap.size w)
 have H : ((impl_DiagramValid.f a0_0 l0_1).bind fun t296 => (if t296 = true then ((impl_Diagram_isPlace.f a0_0 l0_1 a1).bind fun t297 => (if t297 = true then (impl_DiagramRow.j0 k a1 (a1 == 0) a0_0 l0_1) else (impl_DiagramRow.j0 k a1 true a0_0 l0_1))) else (impl_DiagramRow.j0 k a1 true a0_0 l0_1))) = some r := h
 clear h
 have HC3 := Aside0.mk H
 clear H
 go_enter Try.func46, Try.ntmps46
 go_upto_region 1 with (first | ((with_reducible refine gate_dst (N := 2) rfl ?_); refine box_event ?hg (N := 2) ?hd (cs := #[.int .i64 a0_0, .slice A0_1 l0_1.length c0_1]) (t := 48) ?hr ?_; (case hd => rfl); (case hg => rfl); (case hr => first | (go_simp; done) | (go_simp; rfl)); intro gb295 hg w4 hbox hb; have n0_ := Aside0.mk (below_step (by repeat (first | (with_reducible first | exact HB.out | apply bwA | apply bwN | apply bwD) | exact HB.out)) hb); have n1_ := Aside0.mk (hbox); have n2_ := Aside0.mk ((by rw [hg]; exact (below_size (by repeat (first | (with_reducible first | exact HB.out | apply bwA | apply bwN | apply bwD) | exact HB.out))) : w.heap.size ≤ gb295)); have n3_ := Aside0.mk ((by rw [hg]; exact (below_size (by repeat (first | (with_reducible first | exact HB.out | apply bwA | apply bwN | apply bwD) | exact HB.out))) : w.heap.size ≤ gb295)); clear HB; have HB := n0_; have BK295 := n1_; have GW295 := n2_; have GE295 := n3_; clear n0_ n1_ n2_ n3_; clear hb hbox hg))
 (try simp only [Act.put, List.setIfInBounds_toArray, List.set_cons_zero, List.set_cons_succ])
 go_cut [19] (fun v19 wc => ∃ (kq : Nat) (x19_2 : Bool), v19 = .bool x19_2 ∧ Aside0 (impl_DiagramRow.j0 kq a1 x19_2 a0_0 l0_1 = some r) ∧ Aside0 (kq ≤ k) ∧ Aside0 (wc.heap[gb295]? = some (.cells #[.int .i64 a0_0, (.slice A0_1 l0_1.length c0_1)] 48 (0, 0))) ∧ Aside0 (Below w.heap.size w wc))
 case first =>
  have H := HC3.out
  clear HC3
  replace H := Option.bind_eq_some_iff.mp H
  obtain ⟨t296, A50, H⟩ := H
  replace H : (if t296 = true then ((impl_Diagram_isPlace.f a0_0 l0_1 a1).bind fun t297 => (if t297 = true then (impl_DiagramRow.j0 k a1 (a1 == 0) a0_0 l0_1) else (impl_DiagramRow.j0 k a1 true a0_0 l0_1))) else (impl_DiagramRow.j0 k a1 true a0_0 l0_1)) = some r := H
  have A5 := Aside0.mk A50
  clear A50
  by_cases c6 : t296 = true
  ·subst c6
   have H1 : ((impl_Diagram_isPlace.f a0_0 l0_1 a1).bind fun t297 => (if t297 = true then (impl_DiagramRow.j0 k a1 (a1 == 0) a0_0 l0_1) else (impl_DiagramRow.j0 k a1 true a0_0 l0_1))) = some r := by rw [if_pos rfl] at H; exact H
   clear H
   have H := H1
   clear H1
   replace H := Option.bind_eq_some_iff.mp H
   obtain ⟨t297, A70, H⟩ := H
   replace H : (if t297 = true then (impl_DiagramRow.j0 k a1 (a1 == 0) a0_0 l0_1) else (impl_DiagramRow.j0 k a1 true a0_0 l0_1)) = some r := H
   have A7 := Aside0.mk A70
   clear A70
   by_cases c8 : t297 = true
   ·subst c8
    have H1 : (impl_DiagramRow.j0 k a1 (a1 == 0) a0_0 l0_1) = some r := by rw [if_pos rfl] at H; exact H
    clear H
    have H := H1
    clear H1
    have H' := Aside0.mk H
    clear H
    have hcz9_0 : w4.cell? ⟨gb295, 0, none⟩ = some (.int .i64 a0_0) := (blk_cell BK295.out 0).trans rfl
    have hcz9_1 : w4.cell? ⟨gb295, 1, none⟩ = some (.slice A0_1 l0_1.length c0_1) := (blk_cell BK295.out 1).trans rfl
    have hfz9_0 := blk_frozen BK295.out 0
    have hfz9_1 := blk_frozen BK295.out 1
    go_wp2_with (first | ((with_reducible refine gate_callee (f := 44) rfl ?_); refine goesL_ (some 8) rfl rfl Try.func44 (by kernel_rfl) rfl #[.agg #[.int .i64 a0_0, .slice A0_1 l0_1.length c0_1]] rfl lmB ?_; (with_reducible refine (impl_DiagramValid.calls a0_0 _ _ l0_1 true _ ?side1 ?side2 A5.out).mono ?_); (case side1 => repeat (first | exact (Kd.C_below HR0_1.out HB.out) | (with_reducible refine Kd.C_alloc ?_ _) | (with_reducible refine Kd.C_drewN ?_ _) | (with_reducible refine Kd.C_drew ?_))); (case side2 => exact HC0_1.out); rintro e w10 ⟨rfl, hb⟩; refine ⟨_, rfl, ?_⟩; have n0_ := Aside0.mk (blk_below (g := gb295) (o := .cells #[.int .i64 a0_0, .slice A0_1 l0_1.length c0_1] 48 (0, 0)) (bvK BK295.out) hb); have n1_ := Aside0.mk (below_step (by repeat (first | (with_reducible first | exact HB.out | apply bwA | apply bwN | apply bwD | refine below_set ?_ GE295.out) | exact HB.out)) hb); clear BK295; clear HB; have BK295 := n0_; have HB := n1_; clear n0_ n1_; (try clear hb); (try clear hb2); (try clear hk); (try clear hi); have hcz11_0 : w10.cell? ⟨gb295, 0, none⟩ = some (.int .i64 a0_0) := (blk_cell BK295.out 0).trans rfl; have hcz11_1 : w10.cell? ⟨gb295, 1, none⟩ = some (.slice A0_1 l0_1.length c0_1) := (blk_cell BK295.out 1).trans rfl; have hfz11_0 := blk_frozen BK295.out 0; have hfz11_1 := blk_frozen BK295.out 1) | (go_at_call 85; (with_reducible refine (impl_Diagram_isPlace.calls a0_0 _ _ l0_1 a1 true _ ?side1 ?side2 A7.out).mono ?_); (case side1 => repeat (first | exact (Kd.C_below HR0_1.out HB.out) | (with_reducible refine Kd.C_alloc ?_ _) | (with_reducible refine Kd.C_drewN ?_ _) | (with_reducible refine Kd.C_drew ?_))); (case side2 => exact HC0_1.out); rintro e w12 ⟨rfl, hb⟩; have n0_ := Aside0.mk (blk_below (g := gb295) (o := .cells #[.int .i64 a0_0, .slice A0_1 l0_1.length c0_1] 48 (0, 0)) (bvK BK295.out) hb); have n1_ := Aside0.mk (below_step (by repeat (first | (with_reducible first | exact HB.out | apply bwA | apply bwN | apply bwD | refine below_set ?_ GE295.out) | exact HB.out)) hb); clear BK295; clear HB; have BK295 := n0_; have HB := n1_; clear n0_ n1_; (try clear hb); (try clear hb2); (try clear hk); (try clear hi)))
    go_meet
    case rel => exact ⟨_, ((a1 == 0)), rsd, H', ⟨by first | omega | exact Nat.le_refl _⟩, ⟨bvK BK295.out⟩, ⟨by repeat (first | (with_reducible first | exact HB.out | apply bwA | apply bwN | apply bwD | refine below_set ?_ GE295.out) | exact HB.out)⟩⟩
   ·replace c8 := Bool.eq_false_iff.mpr c8
    subst c8
    have H1 : (impl_DiagramRow.j0 k a1 true a0_0 l0_1) = some r := by rw [if_neg (show ¬ (false = true) by decide)] at H; exact H
    clear H
    have H := H1
    clear H1
    have H' := Aside0.mk H
    clear H
    have hcz13_0 : w4.cell? ⟨gb295, 0, none⟩ = some (.int .i64 a0_0) := (blk_cell BK295.out 0).trans rfl
    have hcz13_1 : w4.cell? ⟨gb295, 1, none⟩ = some (.slice A0_1 l0_1.length c0_1) := (blk_cell BK295.out 1).trans rfl
    have hfz13_0 := blk_frozen BK295.out 0
    have hfz13_1 := blk_frozen BK295.out 1
    go_wp2_with (first | ((with_reducible refine gate_callee (f := 44) rfl ?_); refine goesL_ (some 8) rfl rfl Try.func44 (by kernel_rfl) rfl #[.agg #[.int .i64 a0_0, .slice A0_1 l0_1.length c0_1]] rfl lmB ?_; (with_reducible refine (impl_DiagramValid.calls a0_0 _ _ l0_1 true _ ?side1 ?side2 A5.out).mono ?_); (case side1 => repeat (first | exact (Kd.C_below HR0_1.out HB.out) | (with_reducible refine Kd.C_alloc ?_ _) | (with_reducible refine Kd.C_drewN ?_ _) | (with_reducible refine Kd.C_drew ?_))); (case side2 => exact HC0_1.out); rintro e w14 ⟨rfl, hb⟩; refine ⟨_, rfl, ?_⟩; have n0_ := Aside0.mk (blk_below (g := gb295) (o := .cells #[.int .i64 a0_0, .slice A0_1 l0_1.length c0_1] 48 (0, 0)) (bvK BK295.out) hb); have n1_ := Aside0.mk (below_step (by repeat (first | (with_reducible first | exact HB.out | apply bwA | apply bwN | apply bwD | refine below_set ?_ GE295.out) | exact HB.out)) hb); clear BK295; clear HB; have BK295 := n0_; have HB := n1_; clear n0_ n1_; (try clear hb); (try clear hb2); (try clear hk); (try clear hi); have hcz15_0 : w14.cell? ⟨gb295, 0, none⟩ = some (.int .i64 a0_0) := (blk_cell BK295.out 0).trans rfl; have hcz15_1 : w14.cell? ⟨gb295, 1, none⟩ = some (.slice A0_1 l0_1.length c0_1) := (blk_cell BK295.out 1).trans rfl; have hfz15_0 := blk_frozen BK295.out 0; have hfz15_1 := blk_frozen BK295.out 1) | (go_at_call 85; (with_reducible refine (impl_Diagram_isPlace.calls a0_0 _ _ l0_1 a1 false _ ?side1 ?side2 A7.out).mono ?_); (case side1 => repeat (first | exact (Kd.C_below HR0_1.out HB.out) | (with_reducible refine Kd.C_alloc ?_ _) | (with_reducible refine Kd.C_drewN ?_ _) | (with_reducible refine Kd.C_drew ?_))); (case side2 => exact HC0_1.out); rintro e w16 ⟨rfl, hb⟩; have n0_ := Aside0.mk (blk_below (g := gb295) (o := .cells #[.int .i64 a0_0, .slice A0_1 l0_1.length c0_1] 48 (0, 0)) (bvK BK295.out) hb); have n1_ := Aside0.mk (below_step (by repeat (first | (with_reducible first | exact HB.out | apply bwA | apply bwN | apply bwD | refine below_set ?_ GE295.out) | exact HB.out)) hb); clear BK295; clear HB; have BK295 := n0_; have HB := n1_; clear n0_ n1_; (try clear hb); (try clear hb2); (try clear hk); (try clear hi)))
    go_meet
    case rel => exact ⟨_, (true), rsd, H', ⟨by first | omega | exact Nat.le_refl _⟩, ⟨bvK BK295.out⟩, ⟨by repeat (first | (with_reducible first | exact HB.out | apply bwA | apply bwN | apply bwD | refine below_set ?_ GE295.out) | exact HB.out)⟩⟩
  ·replace c6 := Bool.eq_false_iff.mpr c6
   subst c6
   have H1 : (impl_DiagramRow.j0 k a1 true a0_0 l0_1) = some r := by rw [if_neg (show ¬ (false = true) by decide)] at H; exact H
   clear H
   have H := H1
   clear H1
   have H' := Aside0.mk H
   clear H
   have hcz17_0 : w4.cell? ⟨gb295, 0, none⟩ = some (.int .i64 a0_0) := (blk_cell BK295.out 0).trans rfl
   have hcz17_1 : w4.cell? ⟨gb295, 1, none⟩ = some (.slice A0_1 l0_1.length c0_1) := (blk_cell BK295.out 1).trans rfl
   have hfz17_0 := blk_frozen BK295.out 0
   have hfz17_1 := blk_frozen BK295.out 1
   go_wp2_with (first | ((with_reducible refine gate_callee (f := 44) rfl ?_); refine goesL_ (some 8) rfl rfl Try.func44 (by kernel_rfl) rfl #[.agg #[.int .i64 a0_0, .slice A0_1 l0_1.length c0_1]] rfl lmB ?_; (with_reducible refine (impl_DiagramValid.calls a0_0 _ _ l0_1 false _ ?side1 ?side2 A5.out).mono ?_); (case side1 => repeat (first | exact (Kd.C_below HR0_1.out HB.out) | (with_reducible refine Kd.C_alloc ?_ _) | (with_reducible refine Kd.C_drewN ?_ _) | (with_reducible refine Kd.C_drew ?_))); (case side2 => exact HC0_1.out); rintro e w18 ⟨rfl, hb⟩; refine ⟨_, rfl, ?_⟩; have n0_ := Aside0.mk (blk_below (g := gb295) (o := .cells #[.int .i64 a0_0, .slice A0_1 l0_1.length c0_1] 48 (0, 0)) (bvK BK295.out) hb); have n1_ := Aside0.mk (below_step (by repeat (first | (with_reducible first | exact HB.out | apply bwA | apply bwN | apply bwD | refine below_set ?_ GE295.out) | exact HB.out)) hb); clear BK295; clear HB; have BK295 := n0_; have HB := n1_; clear n0_ n1_; (try clear hb); (try clear hb2); (try clear hk); (try clear hi)))
   go_meet
   case rel => exact ⟨_, (true), rsd, H', ⟨by first | omega | exact Nat.le_refl _⟩, ⟨bvK BK295.out⟩, ⟨by repeat (first | (with_reducible first | exact HB.out | apply bwA | apply bwN | apply bwD | refine below_set ?_ GE295.out) | exact HB.out)⟩⟩
 case rest =>
  clear HC3
  try clear p2
  try clear c4
  try clear c6
  try clear c8
  try clear hcz11_0
  try clear hcz11_1
  try clear hcz13_0
  try clear hcz13_1
  try clear hcz15_0
  try clear hcz15_1
  try clear hcz17_0
  try clear hcz17_1
  try clear hcz9_0
  try clear hcz9_1
  try clear hfz11_0
  try clear hfz11_1
  try clear hfz13_0
  try clear hfz13_1
  try clear hfz15_0
  try clear hfz15_1
  try clear hfz17_0
  try clear hfz17_1
  try clear hfz9_0
  try clear hfz9_1
  obtain ⟨kq, x19_2, rfl, HA, HJ2, BK295, HB⟩ := hcut
  cases kq with
  | zero => exact absurd HA.out (by simp [impl_DiagramRow.j0])
  | succ kj2 =>
   have H := HA.out
   clear HA
   simp only [impl_DiagramRow.j0] at H
   by_cases c19 : x19_2 = true
   ·subst c19
    have H1 : (some ([] : List Int)) = some r := by rw [if_pos rfl] at H; exact H
    clear H
    have H := H1
    clear H1
    obtain rfl := Option.some.inj H
    go_wp2
    go_ret
    exact ⟨_, ers, by first | exact Kd.R_nil _ _ _ _ _ | exact Kd.N_nil _ _ _ _ _ | exact Kd.V_nil _ _ _ _ _ | exact Kd.Q_nil _ _ _ _ _ | exact Kd.S_nil _ _ _ _ _, by repeat (first | (with_reducible first | exact HB.out | apply bwA | apply bwN | apply bwD | refine below_set ?_ GE295.out) | exact HB.out)⟩
   ·replace c19 := Bool.eq_false_iff.mpr c19
    subst c19
    have H1 : (if 0 ≤ a0_0 then (if (a0_0 : Int).toNat ≤ 35184372088832 then (impl_DiagramRow.l0 kj2 a1 (List.replicate (a0_0 : Int).toNat 0) a0_0 l0_1) else (none)) else (none)) = some r := by rw [if_neg (show ¬ (false = true) by decide)] at H; exact H
    clear H
    have H := H1
    clear H1
    by_cases c20 : 0 ≤ a0_0
    ·rw [if_pos c20] at H
     have c20b0 := eq_true c20
     have c20b1 : decide (0 ≤ a0_0) = true := decide_eq_true c20
     clear c20
     by_cases c21 : (a0_0 : Int).toNat ≤ 35184372088832
     ·rw [if_pos c21] at H
      have c21b0 := eq_true c21
      have c21b1 : decide ((a0_0 : Int).toNat ≤ 35184372088832) = true := decide_eq_true c21
      clear c21
      obtain ⟨y298, hy298⟩ : ∃ y_ : List Int, y_ = (List.replicate (a0_0 : Int).toNat 0) := ⟨_, rfl⟩
      replace H : (impl_DiagramRow.l0 kj2 a1 y298 a0_0 l0_1) = some r := by first | (rw [hy298]; with_reducible exact H) | (have H2_ := (Option.bind_some _ _).symm.trans H; rw [hy298]; with_reducible exact H2_) | (have H2_ := (Option.bind_some _ _).symm.trans H; with_reducible exact H2_) | with_reducible exact H | (rw [hy298]; exact H) | exact H
      have Ny298 := Aside0.mk hy298
      clear hy298
      have H' := Aside0.mk H
      clear H
      have hcz22_0 : wc.cell? ⟨gb295, 0, none⟩ = some (.int .i64 a0_0) := (blk_cell BK295.out 0).trans rfl
      have hcz22_1 : wc.cell? ⟨gb295, 1, none⟩ = some (.slice A0_1 l0_1.length c0_1) := (blk_cell BK295.out 1).trans rfl
      have hfz22_0 := blk_frozen BK295.out 0
      have hfz22_1 := blk_frozen BK295.out 1
      go_wp2_with (first | ((with_reducible refine gate_dst (N := 22) rfl ?_); refine Kd.R_make (Kd.int .i64) _ 3 rfl (N := 22) rfl 38 _ _ rfl a0_0 rfl rfl Try.underlying38 (.int .i64 0) 8 info3 rfl (by decide) (by omega) 0 (ok := fun _ => True) (okp := fun _ => True) rfl (fun _ hk => hk) trivial (oda) (Nat.le_trans (Nat.mul_le_mul_right _ (oda : a0_0.toNat ≤ 35184372088832)) (by omega)) (Below.refl _ _) (Nat.le_refl _) ?_; intro v299 w23 ho24 hb hg_ hnew_; clear hg_ hnew_; (first | rw [← Ny298.out] at ho24 | (simp only [Int.reduceToNat] at ho24; rw [← Ny298.out] at ho24)); have n0_ := Aside0.mk (Kd.R_lower ho24 (below_size (by repeat (first | (with_reducible first | exact HB.out | apply bwA | apply bwN | apply bwD | refine below_set ?_ GE295.out) | exact HB.out)))); have n1_ := Aside0.mk (blk_below (g := gb295) (o := .cells #[.int .i64 a0_0, .slice A0_1 l0_1.length c0_1] 48 (0, 0)) (bvK BK295.out) hb); have n2_ := Aside0.mk (below_step (by repeat (first | (with_reducible first | exact HB.out | apply bwA | apply bwN | apply bwD | refine below_set ?_ GE295.out) | exact HB.out)) hb); clear BK295; clear HB; have HO300 := n0_; have BK295 := n1_; have HB := n2_; clear n0_ n1_ n2_; clear hb ho24))
      go_loopg [1] kj2 (fun kq v1 w' => ∃ (x1_2 : Int) (x5_2 : List Int), v1 = .int .i64 x1_2 ∧ Aside0 (impl_DiagramRow.l0 kq x1_2 x5_2 a0_0 l0_1 = some r) ∧ Aside0 (kq ≤ kj2) ∧ Aside0 (Kd.R (Kd.int .i64) 3 w' w.heap.size (fun _ => True) v299 x5_2) ∧ Aside0 (w'.heap[gb295]? = some (.cells #[.int .i64 a0_0, (.slice A0_1 l0_1.length c0_1)] 48 (0, 0))) ∧ Aside0 (Below w.heap.size w w'))
      case atStart => exact ⟨(a1), (y298), rsd, H', ⟨Nat.le_refl _⟩, ⟨rvR HO300.out⟩, ⟨bvK BK295.out⟩, ⟨by repeat (first | (with_reducible first | exact HB.out | apply bwA | apply bwN | apply bwD | refine below_set ?_ GE295.out) | exact HB.out)⟩⟩
      case round =>
       clear H'
       try clear c1
       try clear c2
       try clear p2
       try clear c4
       try clear c6
       try clear c8
       try clear c19
       try clear c20
       try clear c20b0
       try clear c20b1
       try clear c21
       try clear c21b0
       try clear c21b1
       try clear hcz11_0
       try clear hcz11_1
       try clear hcz13_0
       try clear hcz13_1
       try clear hcz15_0
       try clear hcz15_1
       try clear hcz17_0
       try clear hcz17_1
       try clear hcz22_0
       try clear hcz22_1
       try clear hcz9_0
       try clear hcz9_1
       try clear hfz11_0
       try clear hfz11_1
       try clear hfz13_0
       try clear hfz13_1
       try clear hfz15_0
       try clear hfz15_1
       try clear hfz17_0
       try clear hfz17_1
       try clear hfz22_0
       try clear hfz22_1
       try clear hfz9_0
       try clear hfz9_1
       try clear p2
       obtain ⟨x1_2, x5_2, rfl, HA, HK2, HO_5, BK295, HB⟩ := hrel
       cases gk with
       | zero => exact absurd HA.out (by simp [impl_DiagramRow.l0])
       | succ k2 =>
        have H := HA.out
        clear HA
        simp only [impl_DiagramRow.l0] at H
        by_cases c25 : x1_2 ≥ 2
        ·rw [if_pos c25] at H
         have c25b0 : decide (2 ≤ x1_2) = true := decide_eq_true c25
         clear c25
         obtain ⟨ji26, hji26⟩ : ∃ j_ : Int, (wrap64 (x1_2 - 2)) = j_ := ⟨_, rfl⟩
         replace H : (if 0 ≤ (ji26) then (if (ji26) < (l0_1.length : Int) then (if ((rd_T56 l0_1 (ji26)).f1) = 0 then (if 0 ≤ ((rd_T56 l0_1 (ji26)).f0) then (if ((rd_T56 l0_1 (ji26)).f0) < (x5_2.length : Int) then (impl_DiagramRow.l0 k2 ((rd_T56 l0_1 (ji26)).f2) (x5_2.set (((rd_T56 l0_1 (ji26)).f0) : Int).toNat 1) a0_0 l0_1) else (none)) else (none)) else (impl_DiagramRow.l0 k2 ((rd_T56 l0_1 (ji26)).f1) x5_2 a0_0 l0_1)) else (none)) else (none)) = some r := by first | (rw [hji26] at H; exact H) | (simp only [hji26] at H ⊢; exact H)
         have hji26w : (IntKind.i64.wrap (x1_2 - 2)) = ji26 := (i64_w _).trans hji26
         by_cases c27 : 0 ≤ (ji26)
         ·rw [if_pos c27] at H
          have c27b0 : decide (0 ≤ (ji26)) = true := decide_eq_true c27
          clear c27
          by_cases c28 : (ji26) < (l0_1.length : Int)
          ·rw [if_pos c28] at H
           have c28b0 : decide ((ji26) < (l0_1.length : Int)) = true := decide_eq_true c28
           clear c28
           by_cases c29 : ((rd_T56 l0_1 (ji26)).f1) = 0
           ·rw [if_pos c29] at H
            have c29b0 : (((rd_T56 l0_1 (ji26)).f1) == 0) = true := beq_iff_eq.mpr c29
            have c29b1 : (((rd_T56 l0_1 (ji26)).f1) != 0) = false := bne_eq_false_iff_eq.mpr c29
            clear c29
            by_cases c30 : 0 ≤ ((rd_T56 l0_1 (ji26)).f0)
            ·rw [if_pos c30] at H
             have c30b0 : decide (0 ≤ ((rd_T56 l0_1 (ji26)).f0)) = true := decide_eq_true c30
             clear c30
             by_cases c31 : ((rd_T56 l0_1 (ji26)).f0) < (x5_2.length : Int)
             ·rw [if_pos c31] at H
              have c31b0 : decide (((rd_T56 l0_1 (ji26)).f0) < (x5_2.length : Int)) = true := decide_eq_true c31
              clear c31
              obtain ⟨y303, hy303⟩ : ∃ y_ : List Int, y_ = (x5_2.set (((rd_T56 l0_1 (ji26)).f0) : Int).toNat 1) := ⟨_, rfl⟩
              replace H : (impl_DiagramRow.l0 k2 ((rd_T56 l0_1 (ji26)).f2) y303 a0_0 l0_1) = some r := by first | (rw [hy303]; with_reducible exact H) | (have H2_ := (Option.bind_some _ _).symm.trans H; rw [hy303]; with_reducible exact H2_) | (have H2_ := (Option.bind_some _ _).symm.trans H; with_reducible exact H2_) | with_reducible exact H | (rw [hy303]; exact H) | exact H
              have Ny303 := Aside0.mk hy303
              clear hy303
              have H' := Aside0.mk H
              clear H
              have hcz33_0 : wr.cell? ⟨gb295, 0, none⟩ = some (.int .i64 a0_0) := (blk_cell BK295.out 0).trans rfl
              have hcz33_1 : wr.cell? ⟨gb295, 1, none⟩ = some (.slice A0_1 l0_1.length c0_1) := (blk_cell BK295.out 1).trans rfl
              have hfz33_0 := blk_frozen BK295.out 0
              have hfz33_1 := blk_frozen BK295.out 1
              have p301 : 0 ≤ ((ji26) : Int) := oda
              have q301 : (ji26) < (l0_1.length : Int) := oda
              obtain ⟨ad301, e301, hx301_0, hx301_1, hx301_2⟩ := at_T56 HR0_1.out (ji26) p301 q301
              cases e301
              try replace hx301_0 := bct HB.out hx301_0
              try replace hx301_1 := bct HB.out hx301_1
              try replace hx301_2 := bct HB.out hx301_2
              replace p301 := eq_true p301
              replace q301 := eq_true q301
              go_wp2_with (first | ((with_reducible refine gate_dst (N := 6) rfl ?_); refine box_event ?hg (N := 6) ?hd (cs := #[.int .i64 0, .int .i64 0, .int .i64 0]) (t := 56) ?hr ?_; (case hd => rfl); (case hg => rfl); (case hr => first | (go_simp; done) | (go_simp; rfl)); intro gb302 hg w34 hbox hb; have n0_ := Aside0.mk (Kd.R_below (rvR HO_5.out) hb); have n1_ := Aside0.mk (blk_below (g := gb295) (o := .cells #[.int .i64 a0_0, .slice (some ad301) l0_1.length c0_1] 48 (0, 0)) (bvK BK295.out) hb); have n2_ := Aside0.mk (below_step (by repeat (first | (with_reducible first | exact HB.out | apply bwA | apply bwN | apply bwD | refine below_set ?_ GE295.out) | exact HB.out)) hb); have n3_ := Aside0.mk (hbox); have n4_ := Aside0.mk ((by rw [hg]; exact (below_size (by repeat (first | (with_reducible first | exact HB.out | apply bwA | apply bwN | apply bwD | refine below_set ?_ GE295.out) | exact HB.out))) : w.heap.size ≤ gb302)); have n5_ := Aside0.mk ((by rw [hg]; exact (below_size (by repeat (first | (with_reducible first | exact HB.out | apply bwA | apply bwN | apply bwD | refine below_set ?_ GE295.out) | exact HB.out))) : w.heap.size ≤ gb302)); have n6_ := Aside0.mk ((by rw [hg]; exact Nat.ne_of_lt (blk_lt (g := gb295) (o := .cells #[.int .i64 a0_0, .slice (some ad301) l0_1.length c0_1] 48 (0, 0)) (bvK BK295.out)) : gb295 ≠ gb302)); have n7_ := Aside0.mk ((by rw [hg]; exact Nat.ne_of_gt (blk_lt (g := gb295) (o := .cells #[.int .i64 a0_0, .slice (some ad301) l0_1.length c0_1] 48 (0, 0)) (bvK BK295.out)) : gb302 ≠ gb295)); clear HO_5; clear BK295; clear HB; have HO_5 := n0_; have BK295 := n1_; have HB := n2_; have BK302 := n3_; have GW302 := n4_; have GE302 := n5_; have NB295_302 := n6_; have NB302_295 := n7_; clear n0_ n1_ n2_ n3_ n4_ n5_ n6_ n7_; clear hb hbox hg; have hnb35 := NB302_295.out; have hnc35 := NB295_302.out; have hcz36_0 : w34.cell? ⟨gb302, 0, none⟩ = some (.int .i64 0) := (blk_cell BK302.out 0).trans rfl; have hcz36_1 : w34.cell? ⟨gb302, 1, none⟩ = some (.int .i64 0) := (blk_cell BK302.out 1).trans rfl; have hcz36_2 : w34.cell? ⟨gb302, 2, none⟩ = some (.int .i64 0) := (blk_cell BK302.out 2).trans rfl; have hfz36_0 := blk_frozen BK302.out 0; have hfz36_1 := blk_frozen BK302.out 1; have hfz36_2 := blk_frozen BK302.out 2) | ((with_reducible refine gate_store (t := 56) (p := 6) rfl ?_); refine store_event (t := 56) (p := 6) (v := ?vo_w37) (w1 := (((w34.setCell ⟨gb302, 0, none⟩ (.int .i64 ((rd_T56 l0_1 (ji26)).f0))).setCell ⟨gb302, 1, none⟩ (.int .i64 ((rd_T56 l0_1 (ji26)).f1))).setCell ⟨gb302, 2, none⟩ (.int .i64 ((rd_T56 l0_1 (ji26)).f2)))) ?hg ?ho ?hn ?hr ?_; (case ho => rfl); (case hg => rfl); (case hn => rfl); (case hr => first | (go_simp; done) | (go_simp; rfl)); intro w37 hw; have n0_ : Aside0 (Kd.R (Kd.int .i64) 3 w37 w.heap.size (fun _ => True) v299 x5_2) := ⟨(by rw [hw]; exact (by (with_reducible repeat first | apply rvA | apply rvN | apply rvD); exact Kd.R_mono (Kd.R_far (p := ⟨gb302, 2, none⟩) (Kd.R_far (p := ⟨gb302, 1, none⟩) (Kd.R_far (p := ⟨gb302, 0, none⟩) (Kd.R_types HO_5.out BK302.out (by decide)) (fun _ hk => hk.2) (.int .i64 ((rd_T56 l0_1 (ji26)).f0))) (fun _ hk => hk.2) (.int .i64 ((rd_T56 l0_1 (ji26)).f1))) (fun _ hk => hk.2) (.int .i64 ((rd_T56 l0_1 (ji26)).f2))) (fun _ hk => trivial)))⟩; have n1_ : Aside0 (w37.heap[gb295]? = some (.cells #[.int .i64 a0_0, .slice (some ad301) l0_1.length c0_1] 48 (0, 0))) := ⟨(by rw [hw]; exact (by (with_reducible repeat first | apply bkN | apply bkD | apply bkA); refine blk_far ?_ NB295_302.out _; (with_reducible repeat first | apply bkN | apply bkD | apply bkA); refine blk_far ?_ NB295_302.out _; (with_reducible repeat first | apply bkN | apply bkD | apply bkA); refine blk_far ?_ NB295_302.out _; (with_reducible repeat first | apply bkN | apply bkD | apply bkA); exact BK295.out))⟩; have n2_ : Aside0 (w37.heap[gb302]? = some (.cells #[.int .i64 ((rd_T56 l0_1 (ji26)).f0), .int .i64 ((rd_T56 l0_1 (ji26)).f1), .int .i64 ((rd_T56 l0_1 (ji26)).f2)] 56 (0, 0))) := ⟨(by rw [hw]; exact (by (with_reducible repeat first | apply bkN | apply bkD | apply bkA); refine blk_put (cs := #[.int .i64 ((rd_T56 l0_1 (ji26)).f0), .int .i64 ((rd_T56 l0_1 (ji26)).f1), .int .i64 0]) ?_ 2 _ rfl; (with_reducible repeat first | apply bkN | apply bkD | apply bkA); refine blk_put (cs := #[.int .i64 ((rd_T56 l0_1 (ji26)).f0), .int .i64 0, .int .i64 0]) ?_ 1 _ rfl; (with_reducible repeat first | apply bkN | apply bkD | apply bkA); refine blk_put (cs := #[.int .i64 0, .int .i64 0, .int .i64 0]) ?_ 0 _ rfl; (with_reducible repeat first | apply bkN | apply bkD | apply bkA); exact BK302.out))⟩; have n3_ : Aside0 (Below w.heap.size w w37) := ⟨(by rw [hw]; exact (by repeat (first | (with_reducible first | exact HB.out | apply bwA | apply bwN | apply bwD | refine below_set ?_ GE295.out | refine below_set ?_ GE302.out) | exact HB.out)))⟩; clear hw; clear HO_5; clear BK295; clear BK302; clear HB; have HO_5 := n0_; have BK295 := n1_; have BK302 := n2_; have HB := n3_; clear n0_ n1_ n2_ n3_; have hcz38_0 : w37.cell? ⟨gb302, 0, none⟩ = some (.int .i64 ((rd_T56 l0_1 (ji26)).f0)) := (blk_cell BK302.out 0).trans rfl; have hcz38_1 : w37.cell? ⟨gb302, 1, none⟩ = some (.int .i64 ((rd_T56 l0_1 (ji26)).f1)) := (blk_cell BK302.out 1).trans rfl; have hcz38_2 : w37.cell? ⟨gb302, 2, none⟩ = some (.int .i64 ((rd_T56 l0_1 (ji26)).f2)) := (blk_cell BK302.out 2).trans rfl; have hfz38_0 := blk_frozen BK302.out 0; have hfz38_1 := blk_frozen BK302.out 1; have hfz38_2 := blk_frozen BK302.out 2; have p32 : 0 ≤ (((rd_T56 l0_1 (ji26)).f0) : Int) := oda; have q32 : (((rd_T56 l0_1 (ji26)).f0) : Int) < ((x5_2.length : Int) : Int) := oda; obtain ⟨go32, co32, eo32, gb32, gl32, cl32, HG32⟩ := Kd.R_form HO_5.out (by omega); (first | cases eo32 | (injection eo32 with ea_ en_ ec_; (first | subst ea_ | (injection ea_ with ea_; subst ea_)); subst ec_; clear en_)); have GB32 := Aside0.mk gb32; have GG32 := Aside0.mk HG32; clear gb32 gl32 HG32; obtain ⟨hx32_0, hf32_0⟩ := Kd.R_celln 0 HO_5.out (((rd_T56 l0_1 (ji26)).f0) : Int) p32 q32; replace p32 := eq_true p32; replace q32 := eq_true q32; obtain ⟨hy39_, hz39_⟩ := Kd.R_celln 0 HO_5.out (((rd_T56 l0_1 (ji26)).f0) : Int) (oda) (oda); have HP39 := Kd.R_putg HO_5.out (((rd_T56 l0_1 (ji26)).f0) : Int) 1) | ((with_reducible refine gate_store (t := 3) (p := 41) rfl ?_); refine store_event (t := 3) (p := 41) (v := ?vo_w40) (w1 := (w37.setCell ⟨go32, (((rd_T56 l0_1 (ji26)).f0) : Int).toNat, none⟩ (.int .i64 1))) ?hg ?ho ?hn ?hr ?_; (case ho => rfl); (case hg => rfl); (case hn => rfl); (case hr => first | (go_simp; done) | (go_simp; rfl)); intro w40 hw; have hg : w37.grownBy w40 (some go32) := (by rw [hw]; exact HP39.2); have hp_ : Kd.R (Kd.int .i64) 3 w40 w.heap.size (fun _ => True) (.slice (some ⟨go32, 0, none⟩) x5_2.length co32) y303 := (by rw [hw, Ny303.out]; exact HP39.1); clear HP39; have n0_ := Aside0.mk (hp_); have n1_ := Aside0.mk (blk_grown (g := gb295) (o := .cells #[.int .i64 a0_0, .slice (some ad301) l0_1.length c0_1] 48 (0, 0)) (bvK BK295.out) hg (Kd.R_ne HO_5.out BK295.out (by decide))); have n2_ := Aside0.mk (blk_grown (g := gb302) (o := .cells #[.int .i64 ((rd_T56 l0_1 (ji26)).f0), .int .i64 ((rd_T56 l0_1 (ji26)).f1), .int .i64 ((rd_T56 l0_1 (ji26)).f2)] 56 (0, 0)) (bvK BK302.out) hg (Kd.R_ne HO_5.out BK302.out (by decide))); have n3_ := Aside0.mk ((by rw [hw]; exact below_set (HB.out) GB32.out : Below w.heap.size w w40)); clear HO_5; clear BK295; clear BK302; clear HB; have HO_5 := n0_; have BK295 := n1_; have BK302 := n2_; have HB := n3_; clear n0_ n1_ n2_ n3_; clear hg hw hp_))
              go_roundg k2
              case measure => have := HJ2.out; have := HK2.out; omega
              case rel => exact ⟨((rd_T56 l0_1 (ji26)).f2), (y303), (by first | rfl | (simp; done) | (simp only [← hji26] <;> (first | rfl | simp)) | (simp [*]; done)), H', ⟨by have := HJ2.out; have := HK2.out; omega⟩, ⟨rvR HO_5.out⟩, ⟨bvK BK295.out⟩, ⟨by repeat (first | (with_reducible first | exact HB.out | apply bwA | apply bwN | apply bwD | refine below_set ?_ GE295.out | refine below_set ?_ GE302.out) | exact HB.out)⟩⟩
             ·rw [if_neg c31] at H
              exact absurd H (by simp)
            ·rw [if_neg c30] at H
             exact absurd H (by simp)
           ·rw [if_neg c29] at H
            have c29b0 : (((rd_T56 l0_1 (ji26)).f1) == 0) = false := beq_eq_false_iff_ne.mpr c29
            have c29b1 : (((rd_T56 l0_1 (ji26)).f1) != 0) = true := bne_iff_ne.mpr c29
            have H' := Aside0.mk H
            clear H
            have hcz41_0 : wr.cell? ⟨gb295, 0, none⟩ = some (.int .i64 a0_0) := (blk_cell BK295.out 0).trans rfl
            have hcz41_1 : wr.cell? ⟨gb295, 1, none⟩ = some (.slice A0_1 l0_1.length c0_1) := (blk_cell BK295.out 1).trans rfl
            have hfz41_0 := blk_frozen BK295.out 0
            have hfz41_1 := blk_frozen BK295.out 1
            have p301 : 0 ≤ ((ji26) : Int) := oda
            have q301 : (ji26) < (l0_1.length : Int) := oda
            obtain ⟨ad301, e301, hx301_0, hx301_1, hx301_2⟩ := at_T56 HR0_1.out (ji26) p301 q301
            cases e301
            try replace hx301_0 := bct HB.out hx301_0
            try replace hx301_1 := bct HB.out hx301_1
            try replace hx301_2 := bct HB.out hx301_2
            replace p301 := eq_true p301
            replace q301 := eq_true q301
            go_wp2_with (first | ((with_reducible refine gate_dst (N := 6) rfl ?_); refine box_event ?hg (N := 6) ?hd (cs := #[.int .i64 0, .int .i64 0, .int .i64 0]) (t := 56) ?hr ?_; (case hd => rfl); (case hg => rfl); (case hr => first | (go_simp; done) | (go_simp; rfl)); intro gb302 hg w42 hbox hb; have n0_ := Aside0.mk (Kd.R_below (rvR HO_5.out) hb); have n1_ := Aside0.mk (blk_below (g := gb295) (o := .cells #[.int .i64 a0_0, .slice (some ad301) l0_1.length c0_1] 48 (0, 0)) (bvK BK295.out) hb); have n2_ := Aside0.mk (below_step (by repeat (first | (with_reducible first | exact HB.out | apply bwA | apply bwN | apply bwD | refine below_set ?_ GE295.out) | exact HB.out)) hb); have n3_ := Aside0.mk (hbox); have n4_ := Aside0.mk ((by rw [hg]; exact (below_size (by repeat (first | (with_reducible first | exact HB.out | apply bwA | apply bwN | apply bwD | refine below_set ?_ GE295.out) | exact HB.out))) : w.heap.size ≤ gb302)); have n5_ := Aside0.mk ((by rw [hg]; exact (below_size (by repeat (first | (with_reducible first | exact HB.out | apply bwA | apply bwN | apply bwD | refine below_set ?_ GE295.out) | exact HB.out))) : w.heap.size ≤ gb302)); have n6_ := Aside0.mk ((by rw [hg]; exact Nat.ne_of_lt (blk_lt (g := gb295) (o := .cells #[.int .i64 a0_0, .slice (some ad301) l0_1.length c0_1] 48 (0, 0)) (bvK BK295.out)) : gb295 ≠ gb302)); have n7_ := Aside0.mk ((by rw [hg]; exact Nat.ne_of_gt (blk_lt (g := gb295) (o := .cells #[.int .i64 a0_0, .slice (some ad301) l0_1.length c0_1] 48 (0, 0)) (bvK BK295.out)) : gb302 ≠ gb295)); clear HO_5; clear BK295; clear HB; have HO_5 := n0_; have BK295 := n1_; have HB := n2_; have BK302 := n3_; have GW302 := n4_; have GE302 := n5_; have NB295_302 := n6_; have NB302_295 := n7_; clear n0_ n1_ n2_ n3_ n4_ n5_ n6_ n7_; clear hb hbox hg; have hnb43 := NB302_295.out; have hnc43 := NB295_302.out; have hcz44_0 : w42.cell? ⟨gb302, 0, none⟩ = some (.int .i64 0) := (blk_cell BK302.out 0).trans rfl; have hcz44_1 : w42.cell? ⟨gb302, 1, none⟩ = some (.int .i64 0) := (blk_cell BK302.out 1).trans rfl; have hcz44_2 : w42.cell? ⟨gb302, 2, none⟩ = some (.int .i64 0) := (blk_cell BK302.out 2).trans rfl; have hfz44_0 := blk_frozen BK302.out 0; have hfz44_1 := blk_frozen BK302.out 1; have hfz44_2 := blk_frozen BK302.out 2))
            go_roundg k2
            case measure => have := HJ2.out; have := HK2.out; omega
            case rel => exact ⟨((rd_T56 l0_1 (ji26)).f1), (x5_2), (by first | rfl | (simp; done) | (simp only [← hji26] <;> (first | rfl | simp)) | (simp [*]; done)), H', ⟨by have := HJ2.out; have := HK2.out; omega⟩, ⟨by (with_reducible repeat first | apply rvA | apply rvN | apply rvD); exact Kd.R_mono (Kd.R_far (p := ⟨gb302, 2, none⟩) (Kd.R_far (p := ⟨gb302, 1, none⟩) (Kd.R_far (p := ⟨gb302, 0, none⟩) (Kd.R_types HO_5.out BK302.out (by decide)) (fun _ hk => hk.2) (.int .i64 ((rd_T56 l0_1 (ji26)).f0))) (fun _ hk => hk.2) (.int .i64 ((rd_T56 l0_1 (ji26)).f1))) (fun _ hk => hk.2) (.int .i64 ((rd_T56 l0_1 (ji26)).f2))) (fun _ hk => trivial)⟩, ⟨by (with_reducible repeat first | apply bkN | apply bkD | apply bkA); refine blk_far ?_ NB295_302.out _; (with_reducible repeat first | apply bkN | apply bkD | apply bkA); refine blk_far ?_ NB295_302.out _; (with_reducible repeat first | apply bkN | apply bkD | apply bkA); refine blk_far ?_ NB295_302.out _; (with_reducible repeat first | apply bkN | apply bkD | apply bkA); exact BK295.out⟩, ⟨by repeat (first | (with_reducible first | exact HB.out | apply bwA | apply bwN | apply bwD | refine below_set ?_ GE295.out | refine below_set ?_ GE302.out) | exact HB.out)⟩⟩
          ·rw [if_neg c28] at H
           exact absurd H (by simp)
         ·rw [if_neg c27] at H
          exact absurd H (by simp)
        ·rw [if_neg c25] at H
         have c25b0 : decide (2 ≤ x1_2) = false := decide_eq_false c25
         clear c25
         replace H := Option.bind_eq_some_iff.mp H
         obtain ⟨t304, A450, H⟩ := H
         replace H : (some t304) = some r := H
         have A45 := Aside0.mk A450
         clear A450
         obtain rfl := Option.some.inj H
         obtain ⟨Ao46, co46, eo46⟩ := Kd.R_slice HO_5.out
         subst eo46
         go_wp2_with (first | ((with_reducible refine gate_callee (f := 70) rfl ?_); refine goesL_ (some 43) rfl rfl Try.func70 (by kernel_rfl) rfl #[.slice Ao46 x5_2.length co46] rfl lmB ?_; (with_reducible refine (impl_clone_int.calls _ _ x5_2 t304 _ ?side1 ?side2 A45.out).mono ?_); (case side1 => repeat (first | exact (Kd.R_reads' HO_5.out).2.2 | (with_reducible refine Kd.C_alloc ?_ _) | (with_reducible refine Kd.C_drewN ?_ _) | (with_reducible refine Kd.C_drew ?_))); (case side2 => exact (Kd.R_reads' HO_5.out).2.1); rintro e w47 ⟨v305, rfl, ho0, hb⟩; refine ⟨_, rfl, ?_⟩; have n0_ := Aside0.mk (Kd.R_elder' (rvR HO_5.out) (Kd.R_base ho0) hb); have n1_ := Aside0.mk (Kd.R_lower (Kd.R_new' ho0 (Kd.R_lt (rvR HO_5.out))) (below_size (by repeat (first | (with_reducible first | exact HB.out | apply bwA | apply bwN | apply bwD | refine below_set ?_ GE295.out) | exact HB.out)))); have n2_ := Aside0.mk (blk_below (g := gb295) (o := .cells #[.int .i64 a0_0, .slice A0_1 l0_1.length c0_1] 48 (0, 0)) (bvK BK295.out) hb); have n3_ := Aside0.mk (below_step (by repeat (first | (with_reducible first | exact HB.out | apply bwA | apply bwN | apply bwD | refine below_set ?_ GE295.out) | exact HB.out)) hb); clear HO_5; clear BK295; clear HB; have HO_5 := n0_; have HO306 := n1_; have BK295 := n2_; have HB := n3_; clear n0_ n1_ n2_ n3_; (try clear hb); (try clear hb2); (try clear hk); (try clear hi); (try clear ho0)))
         go_ret
         exact ⟨_, ers, by (with_reducible repeat first | apply rvA | apply rvN | apply rvD); exact Kd.R_mono HO306.out (fun _ hk => trivial), by repeat (first | (with_reducible first | exact HB.out | apply bwA | apply bwN | apply bwD | refine below_set ?_ GE295.out) | exact HB.out)⟩
     ·rw [if_neg c21] at H
      exact absurd H (by simp)
    ·rw [if_neg c20] at H
     exact absurd H (by simp)

end Go.Proofs.Ytpcckoljocpchaa.QFnCompacted
