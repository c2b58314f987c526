-- Written by a program of this session (mk.py). Lean checks it.
import Derived.Test.YtpcompnmadpljaaQFnDiagramOfx0
import Derived.Test.YtpcompnmadpljaaQFnDiagramOfx1
namespace Go.Proofs.Ytpcompnmadpljaa.QFnDiagramOf
open Go.RowKit Go.Proofs.YtpcompnmadpljaaW.PrintWords Go.Proofs.YtpcompnmadpljaaW.PrintLast Go.Proofs.YtpcompnmadpljaaW.PrintMore
attribute [local go_sem] max2_int min2_int max_two min_two max_three min_three max_four min_four   -- for this text's walks alone
set_option linter.unusedVariables false
set_option linter.unusedSimpArgs false

/-! ### impl_Diagram_count: function 73 -/
theorem keyInt : Mp.Key Try.prog 3 (Value.int .i64) KeyI where
 law := Maps.int_keyed Try.underlying3
 reads := fun x hx => by
  have hu := Try.underlying3
  exact ⟨.int .i64 x, by simp [keyOf, mapKey, hu, hx.wf]⟩
 inj := fun x y _ _ h => by
  simp at h
  exact h
def impl_Diagram_count.cl : Nat → Int → List S71 → Int → (Int → Option Int) → Option ((Int → Option Int) × Int)
 | 0, _, _, _, _ => none
 | k + 1, vars, L, n, m => if n < 2 then (if 0 ≤ vars ∧ vars ≤ 64 then some (m, shl .i64 n vars) else none)
  else if KeyI n then
   match m n with
   | some r => some (m, r)
   | none => if 0 ≤ wrap64 (n - 2) then if wrap64 (n - 2) < (L.length : Int) then
     (impl_Diagram_count.cl k vars L (rd_T71 L (wrap64 (n - 2))).f1 m).bind fun p1 => (impl_Diagram_count.cl k vars L (rd_T71 L (wrap64 (n - 2))).f2 p1.1).bind fun p2 =>
     some ((fun y => if y = n then some (wrap64 ((wrap64 (p1.2 + p2.2)).tdiv 2)) else p2.1 y), wrap64 ((wrap64 (p1.2 + p2.2)).tdiv 2)) else none else none
  else none
theorem impl_Diagram_count.cl_le : ∀ (k : Nat) (vars : Int) (L : List S71) (n : Int) (m : Int → Option Int), LeO (impl_Diagram_count.cl k vars L n m) (impl_Diagram_count.cl (k + 1) vars L n m)
 | 0 => fun _ _ _ _ r h => by simp [impl_Diagram_count.cl] at h
 | k + 1 => fun vars L n m => by
  have ih := impl_Diagram_count.cl_le k
  rw [impl_Diagram_count.cl, impl_Diagram_count.cl]
  refine LeO.ite (LeO.refl _) (LeO.ite ?_ (LeO.refl _))
  cases m n with
  | some r => exact LeO.refl _
  | none => exact LeO.ite (LeO.ite (LeO.bind (ih _ _ _ _) (fun _ => LeO.bind (ih _ _ _ _) (fun _ => LeO.refl _))) (LeO.refl _)) (LeO.refl _)
def impl_Diagram_count.f (k : Nat) (a0_0 : Int) (l0_1 : List S71) (a1 : Int) : Option Int := (impl_Diagram_count.cl k a0_0 l0_1 a1 (fun _ => none)).bind fun p => some p.2
theorem impl_Diagram_count.mono : ∀ a0_0 l0_1 a1 k, LeO (impl_Diagram_count.f k a0_0 l0_1 a1) (impl_Diagram_count.f (k + 1) a0_0 l0_1 a1) := fun a0_0 l0_1 a1 k => LeO.bind (impl_Diagram_count.cl_le k _ _ _ _) (fun _ => LeO.refl _)
def impl_Diagram_count.T7 : Bool × List (List Nat × List Nat) := (true, [([], []), ([], []), ([], []), ([], []), ([3], [3]), ([2, 4], [2, 4]), ([], []), ([], []), ([7], [7]), ([6, 8, 5], [6, 8]), ([5, 9], [5, 9]), ([10], [10]), ([0, 1, 11, 9, 0, 1, 2, 3, 4, 5, 6, 7, 8, 9, 10, 11], [0, 1, 11])])
def impl_Diagram_count.B7 : List Nat := [0, 0, 0, 0, 8, 28, 0, 0, 128, 508, 1020, 2044, 4095]
theorem impl_Diagram_count.tab7 : rtab .any (opsOf Try.f105 7) = impl_Diagram_count.T7 := by kernel_rfl
theorem impl_Diagram_count.bits7 : waitsOk impl_Diagram_count.T7.2 impl_Diagram_count.B7 = true := by kernel_rfl
set_option maxHeartbeats 16000000 in
set_option maxRecDepth 100000 in
theorem impl_Diagram_count.cl_calls (eg : ∀ args w, (callFunc 105 args).run Try.prog w = .ok (.enter 105 args) w) : ∀ (k : Nat) (vars : Int) (L : List S71) (n : Int) (m m' : Int → Option Int) (r : Int) (A : Option Addr) (c : Nat) (gd gm gf mb : Nat) (w0 w : World) (_ : Below w0.heap.size w0 w)
  (_ : w.heap[gd]? = some (.cells #[.int .i64 vars, .slice A L.length c] 25 (0, 0))) (_ : w.heap[gm]? = some (.cells #[.map (some mb)] 83 (0, 0))) (_ : w.heap[gf]? = some (.cells #[.func (.func 105) #[] #[.pointer (some ⟨gd, 0, none⟩), .pointer (some ⟨gm, 0, none⟩), .pointer (some ⟨gf, 0, none⟩)]] 69 (0, 0))) (_ : Mp.Is (Value.int .i64) KeyI (Value.int .i64) w mb m) (_ : w0.heap.size ≤ mb) (_ : ∀ W, Kept w W (fun k_ => k_ = mb) → Kd.C k71 W A L.length L) (_ : L.length ≤ c) (_ : impl_Diagram_count.cl k vars L n m = some (m', r)),
  Calls Try.prog 105 (#[.int .i64 n] ++ #[.pointer (some ⟨gd, 0, none⟩), .pointer (some ⟨gm, 0, none⟩), .pointer (some ⟨gf, 0, none⟩)]) w fun e w' => e = .returned (.int .i64 r) ∧ Mp.Is (Value.int .i64) KeyI (Value.int .i64) w' mb m' ∧ Below w0.heap.size w0 w' ∧ Kept w w' (fun k_ => k_ = mb)
 | 0 => fun _ _ _ _ _ _ _ _ _ _ _ _ _ _ _ _ _ _ _ _ _ _ h => by simp [impl_Diagram_count.cl] at h
 | k + 1 => fun vars L n m m' r A c gd gm gf mb w0 w hB hgd hgm hgf hM hmb hC hc h => by
  show Calls Try.prog 105 #[.int .i64 n, .pointer (some ⟨gd, 0, none⟩), .pointer (some ⟨gm, 0, none⟩), .pointer (some ⟨gf, 0, none⟩)] w _
  have IH := Aside0.mk (impl_Diagram_count.cl_calls eg k)
  have hu25 := Try.underlying25
  have hu71 := Try.underlying71
  have HB := Aside0.mk hB
  have HM := Aside0.mk hM
  have MB := Aside0.mk hmb
  have HC := Aside0.mk hC
  have HL := Aside0.mk hc
  have BGD := Aside0.mk hgd
  have BGM := Aside0.mk hgm
  have BGF := Aside0.mk hgf
  have NE : Aside0 (gd ≠ mb ∧ gm ≠ mb ∧ gf ≠ mb) := by
   obtain ⟨es, ck, hb, _⟩ := hM
   refine ⟨?_, ?_, ?_⟩
   ·rintro rfl
    rw [hb] at hgd
    cases hgd
   ·rintro rfl
    rw [hb] at hgm
    cases hgm
   ·rintro rfl
    rw [hb] at hgf
    cases hgf
  have d0 : w.cell? ⟨gd, 0, none⟩ = some (.int .i64 vars) := (blk_cell hgd 0).trans rfl
  have d1 : w.cell? ⟨gd, 1, none⟩ = some (.slice A L.length c) := (blk_cell hgd 1).trans rfl
  have m0 : w.cell? ⟨gm, 0, none⟩ = some (.map (some mb)) := (blk_cell hgm 0).trans rfl
  rw [impl_Diagram_count.cl] at h
  clear hB hgd hgm hgf hM hmb hC hc
  by_cases c1 : n < 2
  ·rw [if_pos c1] at h
   by_cases c2 : 0 ≤ vars ∧ vars ≤ 64
   ·rw [if_pos c2] at h
    simp only [Option.some.injEq, Prod.mk.injEq] at h
    obtain ⟨rfl, hj⟩ := h
    have e1 : decide (n < 2) = true := decide_eq_true c1
    have h64 := c2.2
    have z0 := c2.1
    have zb0 := eq_true z0
    have zb1 : decide (0 ≤ vars) = true := decide_eq_true z0
    have zj_ : (IntKind.i64.wrap (n * 2 ^ min vars.toNat 64)) = r := hj
    have zjz : (IntKind.i64.wrap (n * 2 ^ vars.toNat)) = r := shl_small hj h64
    have zjy : (wrap64 (n * 2 ^ min vars.toNat 64)) = r := (i64_w _).symm.trans zj_
    have zjx : (wrap64 (n * 2 ^ vars.toNat)) = r := (i64_w _).symm.trans zjz
    clear c1 c2 hj
    go_enter Try.func105, Try.ntmps105
    go_wp2
    go_ret
    exact ⟨by first | rfl | (simp [*]; done), HM.out, HB.out, Kept.refl _ _⟩
   ·rw [if_neg c2] at h
    cases h
  rw [if_neg c1] at h
  have e1 : decide (n < 2) = false := decide_eq_false c1
  clear c1
  by_cases c3 : KeyI n
  ·rw [if_pos c3] at h
   have C3 := Aside0.mk c3
   clear c3
   cases hs : m n with
   | some q =>
    rw [hs] at h
    simp only [Option.some.injEq, Prod.mk.injEq] at h
    obtain ⟨rfl, rfl⟩ := h
    go_enter Try.func105, Try.ntmps105
    go_wp2_with ((with_reducible refine gate_ (op := .lookup 83 (.tmp 16) (.tmp 17) true) rfl ?_); refine Mp.look_some rfl (.tmp 16) (.tmp 17) rfl rfl HM.out keyInt Try.underlying83 zero_int n rfl C3.out hs ?_)
    go_ret
    exact ⟨rfl, HM.out, HB.out, Kept.refl _ _⟩
   | none =>
    rw [hs] at h
    simp only at h
    obtain ⟨j, hj⟩ : ∃ j, wrap64 (n - 2) = j := ⟨_, rfl⟩
    have hjw : (IntKind.i64.wrap (n - 2)) = j := (i64_w _).trans hj
    rw [hj] at h
    by_cases c4 : 0 ≤ j
    ·rw [if_pos c4] at h
     by_cases c5 : j < (L.length : Int)
     ·rw [if_pos c5] at h
      obtain ⟨ad, rfl, hx0, hx1, hx2⟩ := at_T71 (HC.out w (Kept.refl _ _)) j c4 c5
      have c4b : decide (0 ≤ j) = true := decide_eq_true c4
      have c5b : decide (j < (L.length : Int)) = true := decide_eq_true c5
      generalize rd_T71 L j = x at h hx0 hx1 hx2
      obtain ⟨⟨m1, r1⟩, hp1, h2⟩ := Option.bind_eq_some_iff.mp h
      obtain ⟨⟨m2, r2⟩, hp2, h3⟩ := Option.bind_eq_some_iff.mp h2
      simp only [Option.some.injEq, Prod.mk.injEq] at h3 hp2
      obtain ⟨hm3, hr3⟩ := h3
      have P1 := Aside0.mk hp1
      have P2 := Aside0.mk hp2
      obtain ⟨sm, hsm⟩ : ∃ sm, wrap64 (r1 + r2) = sm := ⟨_, rfl⟩
      rw [hsm] at hm3 hr3
      rw [hr3] at hm3
      have M3 := Aside0.mk hm3
      have R3 := Aside0.mk hr3
      have SM := Aside0.mk hsm
      clear h h2 hp1 hp2 hm3 hr3 hsm hj
      go_enter Try.func105, Try.ntmps105
      go_upto_region 7 with (first | ((with_reducible refine gate_ (op := .lookup 83 (.tmp 16) (.tmp 17) true) rfl ?_); refine Mp.look_none rfl (.tmp 16) (.tmp 17) rfl rfl HM.out keyInt Try.underlying83 zero_int n rfl C3.out hs ?_) | ((with_reducible refine gate_dst (N := 8) rfl ?_); refine box_event ?hg (N := 8) ?hd (cs := #[.int .i64 0, .int .i64 0, .int .i64 0]) (t := 71) ?hr ?_; (case hd => rfl); (case hg => rfl); (case hr => first | (go_simp; done) | (go_simp; rfl)); intro gb hgb w7 hbox hb; have BX0 := Aside0.mk hbox; have HB7 := Aside0.mk hb; have hz0 : w7.cell? ⟨gb, 0, none⟩ = some (.int .i64 0) := (blk_cell BX0.out 0).trans rfl; have hz1 : w7.cell? ⟨gb, 1, none⟩ = some (.int .i64 0) := (blk_cell BX0.out 1).trans rfl; have hz2 : w7.cell? ⟨gb, 2, none⟩ = some (.int .i64 0) := (blk_cell BX0.out 2).trans rfl; have hy0 := blk_frozen BX0.out 0; have hy1 := blk_frozen BX0.out 1; have hy2 := blk_frozen BX0.out 2; have HGB := Aside0.mk (show w.heap.size ≤ gb from Nat.le_of_eq hgb.symm); clear hgb hbox hb))
      have n0_ := Aside0.mk (below_set (below_set (below_set HB7.out HGB.out (j := 0) (v := .int .i64 x.f0)) HGB.out (j := 1) (v := .int .i64 x.f1)) HGB.out (j := 2) (v := .int .i64 x.f2))
      have BX8 := Aside0.mk (blk_put (blk_put (blk_put BX0.out 0 (.int .i64 x.f0) rfl) 1 (.int .i64 x.f1) rfl) 2 (.int .i64 x.f2) rfl)
      generalize (((w7.setCell ⟨gb, 0, none⟩ (.int .i64 x.f0)).setCell ⟨gb, 1, none⟩ (.int .i64 x.f1)).setCell ⟨gb, 2, none⟩ (.int .i64 x.f2)) = w8 at n0_ BX8 ⊢
      have NG : Aside0 (gb ≠ mb) := ⟨fun e_ => by have := HM.out.lt; have := HGB.out; omega⟩
      clear hz0 hz1 hz2 hy0 hy1 hy2 BX0 HB7 hx0 hx1 hx2
      refine start_ (n := 13) (S := fun w' => True) (ds := []) (Pt.bm 13 0) (by kernel_rfl) rfl rfl trivial (fun hHeld => ?_)
      refine with_tabW impl_Diagram_count.tab7 impl_Diagram_count.bits7 (fun HT_ HW_ => ?_)
      have n1_ := Aside0.mk (blk_drew BX8.out)
      have n2_ := Aside0.mk (Kept.of_below n0_.out (fun k_ => k_ = mb)).drew
      have n3_ := Aside0.mk (below_drew (below_then HB.out HB.out.size n0_.out))
      have n4_ := Aside0.mk ((HM.out.below n0_.out).drew)
      clear hHeld n0_ BX8
      generalize w8.drew = wS at n1_ n2_ n3_ n4_ ⊢
      refine Pt.pu 1 (some 30) (Pt.bm 13 2) (by kernel_rfl) ?_
      refine Pt.pu 3 (some 32) (v := .pointer (some ⟨gb, 1, none⟩)) (Pt.bm 13 10) (by kernel_rfl) ?_ (hy := by refine Or.inl ⟨by rfl, ?_⟩; intro w'; first | (go_simp; done) | (go_simp; rfl))
      refine Pt.pu 7 (some 36) (v := .pointer (some ⟨gb, 2, none⟩)) (Pt.bm 13 138) (by kernel_rfl) ?_ (hy := by refine Or.inl ⟨by rfl, ?_⟩; intro w'; first | (go_simp; done) | (go_simp; rfl))
      refine inv_at [0, 2, 4, 5, 6, 8, 9, 10, 11, 12] (fun a0_ b_ a' w' => a' = putSel a0_ b_ [(0, 29, .map (some mb)), (2, 31, .func (.func 105) #[] #[.pointer (some ⟨gd, 0, none⟩), .pointer (some ⟨gm, 0, none⟩), .pointer (some ⟨gf, 0, none⟩)]), (4, 33, .int .i64 x.f1), (5, 34, .int .i64 r1), (6, 35, .func (.func 105) #[] #[.pointer (some ⟨gd, 0, none⟩), .pointer (some ⟨gm, 0, none⟩), .pointer (some ⟨gf, 0, none⟩)]), (8, 37, .int .i64 x.f2), (9, 38, .int .i64 r2), (10, 39, .int .i64 sm), (11, 40, .int .i64 r)] ∧ w'.heap[gb]? = some (.cells #[.int .i64 x.f0, .int .i64 x.f1, .int .i64 x.f2] 71 (0, 0)) ∧ Kept w w' (fun k_ => k_ = mb) ∧ Below w0.heap.size w0 w' ∧ (b_ 5 = false → Mp.Is (Value.int .i64) KeyI (Value.int .i64) w' mb m) ∧ (b_ 5 = true → b_ 9 = false → Mp.Is (Value.int .i64) KeyI (Value.int .i64) w' mb m1) ∧ (b_ 9 = true → b_ 12 = false → Mp.Is (Value.int .i64) KeyI (Value.int .i64) w' mb m2) ∧ (b_ 12 = true → Mp.Is (Value.int .i64) KeyI (Value.int .i64) w' mb m')) HT_.out HW_.out (by kernel_rfl) (by kernel_rfl) ?_ ?_ ?_
      ·exact ⟨by simp only [putSel, Bool.false_eq_true, if_false], n1_.out, n2_.out, n3_.out, fun _ => n4_.out, fun h_ => absurd h_ (by decide), fun h_ => absurd h_ (by decide), fun h_ => absurd h_ (by decide)⟩
      ·clear n1_ n2_ n3_ n4_
       refine steps_cons ?_ ?_
       ·rintro b_ a' w' ⟨ha, Q_X, Q_K, Q_B, Q_0, Q_1, Q_2, Q_3⟩ hb_ hon hoff
        refine ⟨_, rfl, fun K hK => ?_⟩
        have e2 : a'.tmps[2]? = some (.pointer (some ⟨gm, 0, none⟩)) := by rw [ha]; exact (putSel_off rfl).trans rfl
        replace ha := Aside0.mk ha
        have BM1 := blk_kept BGM.out Q_K NE.out.2.1
        have hc0_ : w'.cell? ⟨gm, 0, none⟩ = some (.map (some mb)) := (blk_cell BM1 0).trans rfl
        refine value_ (w1 := w') (v := .map (some mb)) (by rfl) rfl ?_ ?_
        ·go_simp
         (try simp only [i64_w])
         try rfl
        exact hK.out _ _ ⟨(by rw [ha.out]; exact putSel_upk 0 hb_ rfl rfl rfl), Q_X, Q_K, Q_B, Q_0, Q_1, Q_2, Q_3⟩
       refine steps_cons ?_ ?_
       ·rintro b_ a' w' ⟨ha, Q_X, Q_K, Q_B, Q_0, Q_1, Q_2, Q_3⟩ hb_ hon hoff
        refine ⟨_, rfl, fun K hK => ?_⟩
        have e3 : a'.tmps[3]? = some (.pointer (some ⟨gf, 0, none⟩)) := by rw [ha]; exact (putSel_off rfl).trans rfl
        replace ha := Aside0.mk ha
        have BF1 := blk_kept BGF.out Q_K NE.out.2.2
        have hc0_ : w'.cell? ⟨gf, 0, none⟩ = some (.func (.func 105) #[] #[.pointer (some ⟨gd, 0, none⟩), .pointer (some ⟨gm, 0, none⟩), .pointer (some ⟨gf, 0, none⟩)]) := (blk_cell BF1 0).trans rfl
        refine value_ (w1 := w') (v := .func (.func 105) #[] #[.pointer (some ⟨gd, 0, none⟩), .pointer (some ⟨gm, 0, none⟩), .pointer (some ⟨gf, 0, none⟩)]) (by rfl) rfl ?_ ?_
        ·go_simp
         (try simp only [i64_w])
         try rfl
        exact hK.out _ _ ⟨(by rw [ha.out]; exact putSel_upk 1 hb_ rfl rfl rfl), Q_X, Q_K, Q_B, Q_0, Q_1, Q_2, Q_3⟩
       refine steps_cons ?_ ?_
       ·rintro b_ a' w' ⟨ha, Q_X, Q_K, Q_B, Q_0, Q_1, Q_2, Q_3⟩ hb_ hon hoff
        refine ⟨_, rfl, fun K hK => ?_⟩
        have e32 : a'.tmps[32]? = some (.pointer (some ⟨gb, 1, none⟩)) := by rw [ha]; exact (putSel_off rfl).trans rfl
        replace ha := Aside0.mk ha
        have hc0_ : w'.cell? ⟨gb, 1, none⟩ = some (.int .i64 x.f1) := (blk_cell Q_X 1).trans rfl
        refine value_ (w1 := w') (v := .int .i64 x.f1) (by rfl) rfl ?_ ?_
        ·go_simp
         (try simp only [i64_w])
         try rfl
        exact hK.out _ _ ⟨(by rw [ha.out]; exact putSel_upk 2 hb_ rfl rfl rfl), Q_X, Q_K, Q_B, Q_0, Q_1, Q_2, Q_3⟩
       refine steps_cons ?_ ?_
       ·rintro b_ a' w' ⟨ha, Q_X, Q_K, Q_B, Q_0, Q_1, Q_2, Q_3⟩ hb_ hon hoff
        refine ⟨_, rfl, fun K hK => ?_⟩
        have e31 : a'.tmps[31]? = some (.func (.func 105) #[] #[.pointer (some ⟨gd, 0, none⟩), .pointer (some ⟨gm, 0, none⟩), .pointer (some ⟨gf, 0, none⟩)]) := by rw [ha]; exact putSel_on (e := (2, 31, .func (.func 105) #[] #[.pointer (some ⟨gd, 0, none⟩), .pointer (some ⟨gm, 0, none⟩), .pointer (some ⟨gf, 0, none⟩)])) 1 rfl rfl (hon 2 (by kernel_rfl)) rfl
        have e33 : a'.tmps[33]? = some (.int .i64 x.f1) := by rw [ha]; exact putSel_on (e := (4, 33, .int .i64 x.f1)) 2 rfl rfl (hon 4 (by kernel_rfl)) rfl
        replace ha := Aside0.mk ha
        have QM_ := Q_0 hb_
        refine Pv.goesV 105 #[.pointer (some ⟨gd, 0, none⟩), .pointer (some ⟨gm, 0, none⟩), .pointer (some ⟨gf, 0, none⟩)] eg #[.int .i64 x.f1] (by rfl) rfl rfl (by first | (simp only [Act.eval, Array.getD_eq_getD_getElem?, Option.getD_some, e31]; done) | (simp only [Act.eval, Array.getD_eq_getD_getElem?, Option.getD_some, e31]; rfl)) (by first | (simp only [List.map_toArray, List.map_cons, List.map_nil, Act.eval, Array.getD_eq_getD_getElem?, Option.getD_some, e33]; done) | (simp only [List.map_toArray, List.map_cons, List.map_nil, Act.eval, Array.getD_eq_getD_getElem?, Option.getD_some, e33]; rfl)) ?_
        with_reducible refine (IH.out vars L x.f1 m m1 r1 (some ad) c gd gm gf mb w0 _ Q_B (blk_kept BGD.out Q_K NE.out.1) (blk_kept BGM.out Q_K NE.out.2.1) (blk_kept BGF.out Q_K NE.out.2.2) QM_ MB.out (fun W_ hk_ => HC.out W_ (Q_K.then_ hk_ (fun _ h_ => .inl h_))) HL.out P1.out).mono ?_
        rintro e w10 ⟨rfl, q1_, q2_, q3_⟩
        exact ⟨_, rfl, hK.out _ _ ⟨(by rw [ha.out]; exact putSel_upk 3 hb_ rfl rfl rfl), blk_kept Q_X q3_ NG.out, Q_K.then_ q3_ (fun _ h_ => .inl h_), q2_, fun h_ => absurd ((up_self b_ 5).symm.trans h_) (by decide), fun _ _ => q1_, fun h_ _ => absurd ((hoff 9 (by kernel_rfl)).symm.trans h_) (by decide), fun h_ => absurd ((hoff 12 (by kernel_rfl)).symm.trans h_) (by decide)⟩⟩
       refine steps_cons ?_ ?_
       ·rintro b_ a' w' ⟨ha, Q_X, Q_K, Q_B, Q_0, Q_1, Q_2, Q_3⟩ hb_ hon hoff
        refine ⟨_, rfl, fun K hK => ?_⟩
        have e3 : a'.tmps[3]? = some (.pointer (some ⟨gf, 0, none⟩)) := by rw [ha]; exact (putSel_off rfl).trans rfl
        replace ha := Aside0.mk ha
        have BF1 := blk_kept BGF.out Q_K NE.out.2.2
        have hc0_ : w'.cell? ⟨gf, 0, none⟩ = some (.func (.func 105) #[] #[.pointer (some ⟨gd, 0, none⟩), .pointer (some ⟨gm, 0, none⟩), .pointer (some ⟨gf, 0, none⟩)]) := (blk_cell BF1 0).trans rfl
        refine value_ (w1 := w') (v := .func (.func 105) #[] #[.pointer (some ⟨gd, 0, none⟩), .pointer (some ⟨gm, 0, none⟩), .pointer (some ⟨gf, 0, none⟩)]) (by rfl) rfl ?_ ?_
        ·go_simp
         (try simp only [i64_w])
         try rfl
        exact hK.out _ _ ⟨(by rw [ha.out]; exact putSel_upk 4 hb_ rfl rfl rfl), Q_X, Q_K, Q_B, Q_0, Q_1, Q_2, Q_3⟩
       refine steps_cons ?_ ?_
       ·rintro b_ a' w' ⟨ha, Q_X, Q_K, Q_B, Q_0, Q_1, Q_2, Q_3⟩ hb_ hon hoff
        refine ⟨_, rfl, fun K hK => ?_⟩
        have e36 : a'.tmps[36]? = some (.pointer (some ⟨gb, 2, none⟩)) := by rw [ha]; exact (putSel_off rfl).trans rfl
        replace ha := Aside0.mk ha
        have hc0_ : w'.cell? ⟨gb, 2, none⟩ = some (.int .i64 x.f2) := (blk_cell Q_X 2).trans rfl
        refine value_ (w1 := w') (v := .int .i64 x.f2) (by rfl) rfl ?_ ?_
        ·go_simp
         (try simp only [i64_w])
         try rfl
        exact hK.out _ _ ⟨(by rw [ha.out]; exact putSel_upk 5 hb_ rfl rfl rfl), Q_X, Q_K, Q_B, Q_0, Q_1, Q_2, Q_3⟩
       refine steps_cons ?_ ?_
       ·rintro b_ a' w' ⟨ha, Q_X, Q_K, Q_B, Q_0, Q_1, Q_2, Q_3⟩ hb_ hon hoff
        refine ⟨_, rfl, fun K hK => ?_⟩
        have e35 : a'.tmps[35]? = some (.func (.func 105) #[] #[.pointer (some ⟨gd, 0, none⟩), .pointer (some ⟨gm, 0, none⟩), .pointer (some ⟨gf, 0, none⟩)]) := by rw [ha]; exact putSel_on (e := (6, 35, .func (.func 105) #[] #[.pointer (some ⟨gd, 0, none⟩), .pointer (some ⟨gm, 0, none⟩), .pointer (some ⟨gf, 0, none⟩)])) 4 rfl rfl (hon 6 (by kernel_rfl)) rfl
        have e37 : a'.tmps[37]? = some (.int .i64 x.f2) := by rw [ha]; exact putSel_on (e := (8, 37, .int .i64 x.f2)) 5 rfl rfl (hon 8 (by kernel_rfl)) rfl
        replace ha := Aside0.mk ha
        have QM_ := Q_1 (hon 5 (by kernel_rfl)) hb_
        refine Pv.goesV 105 #[.pointer (some ⟨gd, 0, none⟩), .pointer (some ⟨gm, 0, none⟩), .pointer (some ⟨gf, 0, none⟩)] eg #[.int .i64 x.f2] (by rfl) rfl rfl (by first | (simp only [Act.eval, Array.getD_eq_getD_getElem?, Option.getD_some, e35]; done) | (simp only [Act.eval, Array.getD_eq_getD_getElem?, Option.getD_some, e35]; rfl)) (by first | (simp only [List.map_toArray, List.map_cons, List.map_nil, Act.eval, Array.getD_eq_getD_getElem?, Option.getD_some, e37]; done) | (simp only [List.map_toArray, List.map_cons, List.map_nil, Act.eval, Array.getD_eq_getD_getElem?, Option.getD_some, e37]; rfl)) ?_
        with_reducible refine (IH.out vars L x.f2 m1 m2 r2 (some ad) c gd gm gf mb w0 _ Q_B (blk_kept BGD.out Q_K NE.out.1) (blk_kept BGM.out Q_K NE.out.2.1) (blk_kept BGF.out Q_K NE.out.2.2) QM_ MB.out (fun W_ hk_ => HC.out W_ (Q_K.then_ hk_ (fun _ h_ => .inl h_))) HL.out P2.out).mono ?_
        rintro e w10 ⟨rfl, q1_, q2_, q3_⟩
        exact ⟨_, rfl, hK.out _ _ ⟨(by rw [ha.out]; exact putSel_upk 6 hb_ rfl rfl rfl), blk_kept Q_X q3_ NG.out, Q_K.then_ q3_ (fun _ h_ => .inl h_), q2_, fun h_ => absurd ((hon 5 (by kernel_rfl)).symm.trans h_) (by decide), fun _ h_ => absurd ((up_self b_ 9).symm.trans h_) (by decide), fun _ _ => q1_, fun h_ => absurd ((hoff 12 (by kernel_rfl)).symm.trans h_) (by decide)⟩⟩
       refine steps_cons ?_ ?_
       ·rintro b_ a' w' ⟨ha, Q_X, Q_K, Q_B, Q_0, Q_1, Q_2, Q_3⟩ hb_ hon hoff
        refine ⟨_, rfl, fun K hK => ?_⟩
        have e34 : a'.tmps[34]? = some (.int .i64 r1) := by rw [ha]; exact putSel_on (e := (5, 34, .int .i64 r1)) 3 rfl rfl (hon 5 (by kernel_rfl)) rfl
        have e38 : a'.tmps[38]? = some (.int .i64 r2) := by rw [ha]; exact putSel_on (e := (9, 38, .int .i64 r2)) 6 rfl rfl (hon 9 (by kernel_rfl)) rfl
        replace ha := Aside0.mk ha
        have hw_ : (IntKind.i64.wrap (r1 + r2)) = sm := (i64_w _).trans SM.out
        have hw2_ := SM.out
        refine value_ (w1 := w') (v := .int .i64 sm) (by rfl) rfl ?_ ?_
        ·go_simp
         (try simp only [i64_w])
         (try rw [hw2_])
         try rfl
        exact hK.out _ _ ⟨(by rw [ha.out]; exact putSel_upk 7 hb_ rfl rfl rfl), Q_X, Q_K, Q_B, Q_0, Q_1, Q_2, Q_3⟩
       refine steps_cons ?_ ?_
       ·rintro b_ a' w' ⟨ha, Q_X, Q_K, Q_B, Q_0, Q_1, Q_2, Q_3⟩ hb_ hon hoff
        refine ⟨_, rfl, fun K hK => ?_⟩
        have e39 : a'.tmps[39]? = some (.int .i64 sm) := by rw [ha]; exact putSel_on (e := (10, 39, .int .i64 sm)) 7 rfl rfl (hon 10 (by kernel_rfl)) rfl
        replace ha := Aside0.mk ha
        have hw_ : (IntKind.i64.wrap (sm.tdiv 2)) = r := (i64_w _).trans R3.out
        have hw2_ := R3.out
        refine value_ (w1 := w') (v := .int .i64 r) (by rfl) rfl ?_ ?_
        ·go_simp
         (try simp only [i64_w])
         (try rw [hw2_])
         try rfl
        exact hK.out _ _ ⟨(by rw [ha.out]; exact putSel_upk 8 hb_ rfl rfl rfl), Q_X, Q_K, Q_B, Q_0, Q_1, Q_2, Q_3⟩
       refine steps_cons ?_ ?_
       ·rintro b_ a' w' ⟨ha, Q_X, Q_K, Q_B, Q_0, Q_1, Q_2, Q_3⟩ hb_ hon hoff
        refine ⟨_, rfl, fun K hK => ?_⟩
        have e29 : a'.tmps[29]? = some (.map (some mb)) := by rw [ha]; exact putSel_on (e := (0, 29, .map (some mb))) 0 rfl rfl (hon 0 (by kernel_rfl)) rfl
        have e40 : a'.tmps[40]? = some (.int .i64 r) := by rw [ha]; exact putSel_on (e := (11, 40, .int .i64 r)) 8 rfl rfl (hon 11 (by kernel_rfl)) rfl
        have e30 : a'.tmps[30]? = some (.int .i64 n) := by rw [ha]; exact (putSel_off rfl).trans rfl
        have h9 := hon 9 (by kernel_rfl)
        replace ha := Aside0.mk ha
        obtain ⟨w1, hrun, r1_, r2_, r3_⟩ := (Q_2 h9 hb_).store (P := Try.prog) keyInt Try.underlying83 C3.out r
        rw [M3.out] at r1_
        refine skip_ (w1 := w1) (by rfl) rfl ?_ ?_
        ·have q1_ : a'.eval (.tmp 29) = .map (some mb) := by simp only [Act.eval, Array.getD_eq_getD_getElem?, e29]; rfl
         have q2_ : a'.eval (.tmp 30) = .int .i64 n := by simp only [Act.eval, Array.getD_eq_getD_getElem?, e30]; rfl
         have q3_ : a'.eval (.tmp 40) = .int .i64 r := by simp only [Act.eval, Array.getD_eq_getD_getElem?, e40]; rfl
         simp [execOp, q1_, q2_, q3_, hrun, Result.andThen]
        exact hK.out _ _ ⟨(by rw [ha.out]; exact putSel_none (v := undef) rfl), (r2_.block gb (blk_lt Q_X) (fun e_ => NG.out (by cases e_; rfl))).trans Q_X, Kept.of_grown r2_ Q_K (fun k_ e_ => by cases e_; exact .inl rfl), Q_B.grown r2_ Q_B.size (fun k_ e_ => by cases e_; exact MB.out), fun h_ => absurd ((hon 5 (by kernel_rfl)).symm.trans h_) (by decide), fun _ h_ => absurd (h9.symm.trans h_) (by decide), fun _ h_ => absurd ((up_self b_ 12).symm.trans h_) (by decide), fun _ => r1_⟩
       exact steps_nil
      rintro b_ a' w9 hall ⟨ha, Q_X, Q_K, Q_B, Q_0, Q_1, Q_2, Q_3⟩
      have hb0_ := hall 0 (by kernel_rfl)
      have hb2_ := hall 2 (by kernel_rfl)
      have hb4_ := hall 4 (by kernel_rfl)
      have hb5_ := hall 5 (by kernel_rfl)
      have hb6_ := hall 6 (by kernel_rfl)
      have hb8_ := hall 8 (by kernel_rfl)
      have hb9_ := hall 9 (by kernel_rfl)
      have hb10_ := hall 10 (by kernel_rfl)
      have hb11_ := hall 11 (by kernel_rfl)
      have hb12_ := hall 12 (by kernel_rfl)
      subst ha
      simp only [putSel, hb0_, hb2_, hb4_, hb5_, hb6_, hb8_, hb9_, hb10_, hb11_, if_true, Act.put, List.setIfInBounds_toArray, List.set_cons_zero, List.set_cons_succ]
      have M9 := Aside0.mk (Q_3 hb12_)
      have K9 := Aside0.mk Q_K
      have B9 := Aside0.mk Q_B
      have m90 : w9.cell? ⟨gm, 0, none⟩ = some (.map (some mb)) := (blk_cell (blk_kept BGM.out K9.out NE.out.2.1) 0).trans rfl
      have s9 : m' n = some r := by rw [← M3.out]; simp
      clear hall hb0_ hb2_ hb4_ hb5_ hb6_ hb8_ hb9_ hb10_ hb11_ hb12_ Q_X Q_K Q_B Q_0 Q_1 Q_2 Q_3 n1_ n2_ n3_ n4_ m0
      go_wp2_with ((with_reducible refine gate_ (op := .lookup 83 (.tmp 41) (.tmp 42) false) rfl ?_); refine Mp.at_some rfl (.tmp 41) (.tmp 42) rfl rfl M9.out keyInt Try.underlying83 zero_int n rfl C3.out s9 ?_)
      go_ret
      exact ⟨rfl, M9.out, B9.out, K9.out⟩
     ·rw [if_neg c5] at h
      cases h
    ·rw [if_neg c4] at h
     cases h
  ·rw [if_neg c3] at h
   cases h
set_option maxHeartbeats 8000000 in
set_option maxRecDepth 100000 in
theorem impl_Diagram_count.calls (k : Nat) (a0_0 : Int) (A0_1 : Option Addr) (c0_1 : Nat) (l0_1 : List S71) (a1 : Int) (r : Int) (w : World) (hr : Kd.C k71 w A0_1 l0_1.length l0_1) (hc : l0_1.length ≤ c0_1) (h : impl_Diagram_count.f k a0_0 l0_1 a1 = some r) :
  Calls Try.prog 73 #[.agg #[.int .i64 a0_0, .slice A0_1 l0_1.length c0_1], .int .i64 a1] w fun e w' => e = .returned (.int .i64 r) ∧ Below w.heap.size w w' := by
 have eg : ∀ args w, (callFunc 105 args).run Try.prog w = .ok (.enter 105 args) w := enters_of Try.func105 (by kernel_rfl) rfl
 have hu25 := Try.underlying25
 obtain ⟨⟨m', r'⟩, hp, h2⟩ := Option.bind_eq_some_iff.mp h
 simp only [Option.some.injEq] at h2
 subst h2
 have HR := Aside0.mk hr
 have HC := Aside0.mk hc
 have P1 := Aside0.mk hp
 clear hr hc h hp
 go_enter Try.func73, Try.ntmps73
 go_wp2_with (first | ((with_reducible refine gate_dst (N := 2) rfl ?_); refine box_event ?hg (N := 2) ?hd (cs := #[.int .i64 a0_0, .slice A0_1 l0_1.length c0_1]) (t := 25) ?hr ?_; (case hd => rfl); (case hg => rfl); (case hr => first | (go_simp; done) | (go_simp; rfl)); intro gd hg_ w1 hbox hb; have BD1 := Aside0.mk hbox; have HB1 := Aside0.mk hb; clear hg_ hbox hb) | ((with_reducible refine gate_ (op := .makeMap 83 none) rfl ?_); refine Mp.made_event rfl (N := 7) rfl 83 rfl (Value.int .i64) KeyI (Value.int .i64) ?_; intro mb hmb w2 hM_ hb; have HMB := Aside0.mk (show w.heap.size ≤ mb by rw [hmb]; exact HB1.out.size); have HM2 := Aside0.mk hM_; have BD2 := Aside0.mk (blk_below BD1.out hb); have HB2 := Aside0.mk (below_step HB1.out hb); clear hmb hM_ hb) | ((with_reducible refine gate_dst (N := 5) rfl ?_); refine box_event ?hg (N := 5) ?hd (cs := #[.map none]) (t := 83) ?hr ?_; (case hd => rfl); (case hg => rfl); (case hr => first | (go_simp; done) | (go_simp; rfl)); intro gm hg_ w3 hbox hb; have HGM := Aside0.mk (show w.heap.size ≤ gm ∧ gm ≠ mb ∧ gm ≠ gd from ⟨by rw [hg_]; exact HB2.out.size, fun e_ => by have := HM2.out.lt; omega, fun e_ => by have := blk_lt BD2.out; omega⟩); have BM3 := Aside0.mk hbox; have BD3 := Aside0.mk (blk_below BD2.out hb); have HM3 := Aside0.mk (HM2.out.below hb); have HB3 := Aside0.mk (below_step HB2.out hb); have hz0 : w3.cell? ⟨gm, 0, none⟩ = some (.map none) := (blk_cell BM3.out 0).trans rfl; have hy0 := blk_frozen BM3.out 0; clear hg_ hbox hb) | ((with_reducible refine gate_dst (N := 6) rfl ?_); refine box_event ?hg (N := 6) ?hd (cs := #[.nilFunc]) (t := 69) ?hr ?_; (case hd => rfl); (case hg => rfl); (case hr => first | (go_simp; done) | (go_simp; rfl)); intro gf hg_ w4 hbox hb; have BF4 := Aside0.mk hbox; have BM4 := Aside0.mk (blk_below (blk_put BM3.out 0 (.map (some mb)) rfl) hb); have BD4 := Aside0.mk (blk_below (blk_far (p := ⟨gm, 0, none⟩) BD3.out HGM.out.2.2.symm (.map (some mb))) hb); have HM4 := Aside0.mk ((HM3.out.far (p := ⟨gm, 0, none⟩) HGM.out.2.1.symm (.map (some mb))).below hb); have HB4 := Aside0.mk (below_step (below_set HB3.out HGM.out.1 (j := 0) (v := .map (some mb))) hb); have LM_ := (HM3.out.far (p := ⟨gm, 0, none⟩) HGM.out.2.1.symm (.map (some mb))).lt; have LD_ := blk_lt (blk_far (p := ⟨gm, 0, none⟩) BD3.out HGM.out.2.2.symm (.map (some mb))); have LG_ := blk_lt (blk_put BM3.out 0 (.map (some mb)) rfl); have HGF := Aside0.mk (show w.heap.size ≤ gf ∧ gf ≠ mb ∧ gf ≠ gd ∧ gf ≠ gm from ⟨by rw [hg_]; exact (below_set HB3.out HGM.out.1 (j := 0) (v := .map (some mb))).size, by rw [hg_]; exact Nat.ne_of_gt LM_, by rw [hg_]; exact Nat.ne_of_gt LD_, by rw [hg_]; exact Nat.ne_of_gt LG_⟩); have hz1 : w4.cell? ⟨gf, 0, none⟩ = some .nilFunc := (blk_cell BF4.out 0).trans rfl; have hy1 := blk_frozen BF4.out 0; clear hg_ hbox hb LM_ LD_ LG_) | (go_at_fn 105; have QB := below_set HB4.out HGF.out.1 (j := 0) (v := .func (.func 105) #[] #[.pointer (some ⟨gd, 0, none⟩), .pointer (some ⟨gm, 0, none⟩), .pointer (some ⟨gf, 0, none⟩)]); have QC := (fun W_ hk_ => Kd.C_kept_came (Kd.heap_iso _ (Kd.heap_pair (Kd.heap_int .i64) (Kd.heap_pair (Kd.heap_int .i64) (Kd.heap_int .i64)))) HR.out QB (fun k_ (e_ : k_ = mb) => by rw [e_]; exact HMB.out) W_ hk_); refine (impl_Diagram_count.cl_calls eg k a0_0 l0_1 a1 (fun _ => none) m' r' A0_1 c0_1 gd gm gf mb w _ QB (blk_far (p := ⟨gf, 0, none⟩) BD4.out HGF.out.2.2.1.symm _) (blk_far (p := ⟨gf, 0, none⟩) BM4.out HGF.out.2.2.2.symm _) (blk_put BF4.out 0 _ rfl) (HM4.out.far (p := ⟨gf, 0, none⟩) HGF.out.2.1.symm _) HMB.out QC HC.out P1.out).mono ?_; rintro e w9 ⟨rfl, hm_, hb_, hk_⟩; have HB9 := Aside0.mk hb_; clear hm_ hb_ hk_ QB QC))
 go_ret
 exact ⟨rfl, HB9.out⟩

/-! ### impl_DiagramCount: function 29 -/
def impl_DiagramCount.f (k : Nat) (a0_0 : Int) (l0_1 : List (S71)) (a1 : Int) : Option (Int) := (impl_DiagramValid.f a0_0 l0_1).bind fun t106 => (if t106 = true then ((impl_Diagram_isPlace.f a0_0 l0_1 a1).bind fun t107 => (if t107 = true then ((impl_Diagram_count.f k a0_0 l0_1 a1).bind fun t108 => (some t108)) else (some (-1)))) else (some (-1)))
theorem impl_DiagramCount.mono : ∀ a0 a1 a2 k, LeO (impl_DiagramCount.f k a0 a1 a2) (impl_DiagramCount.f (k + 1) a0 a1 a2) := by
 intro a0 a1 a2 k
 unfold impl_DiagramCount.f
 repeat' first
   | (with_reducible exact impl_Diagram_count.mono _ _ _ _)
   | (with_reducible exact LeO.refl _)
   | (with_reducible exact LeO.none _)
   | (with_reducible refine LeO.ite ?_ ?_)
   | (with_reducible refine LeO.bind ?_ (fun _ => ?_))
   | exact impl_Diagram_count.mono _ _ _ _
   | exact LeO.none _
   | refine LeO.ite ?_ ?_
   | refine LeO.bind ?_ (fun _ => ?_)
set_option maxHeartbeats 8000000 in
set_option maxRecDepth 100000 in
theorem impl_DiagramCount.calls (k : Nat) (a0_0 : Int) (A0_1 : Option Addr) (c0_1 : Nat) (l0_1 : List (S71)) (a1 : Int) (r : Int) (w : World) (hr0_1 : Kd.C k71 w A0_1 l0_1.length l0_1) (hc0_1 : l0_1.length ≤ c0_1) (h : impl_DiagramCount.f k a0_0 l0_1 a1 = some r) :
  Calls Try.prog 29 #[.agg #[.int .i64 a0_0, .slice A0_1 l0_1.length c0_1], .int .i64 a1] w fun e w' => e = .returned (.int .i64 r) ∧ Below w.heap.size w w' := by
 have hu25 := Try.underlying25
 have HR0_1 := Aside0.mk hr0_1
 have HC0_1 := Aside0.mk hc0_1
 clear hr0_1 hc0_1
 have HB := Aside0.mk (Below.refl w.heap.size w)
 have H : ((impl_DiagramValid.f a0_0 l0_1).bind fun t106 => (if t106 = true then ((impl_Diagram_isPlace.f a0_0 l0_1 a1).bind fun t107 => (if t107 = true then ((impl_Diagram_count.f k a0_0 l0_1 a1).bind fun t108 => (some t108)) else (some (-1)))) else (some (-1)))) = some r := h
 clear h
 replace H := Option.bind_eq_some_iff.mp H
 obtain ⟨t106, A30, H⟩ := H
 replace H : (if t106 = true then ((impl_Diagram_isPlace.f a0_0 l0_1 a1).bind fun t107 => (if t107 = true then ((impl_Diagram_count.f k a0_0 l0_1 a1).bind fun t108 => (some t108)) else (some (-1)))) else (some (-1))) = some r := H
 have A3 := Aside0.mk A30
 clear A30
 by_cases c4 : t106 = true
 ·subst c4
  have H1 : ((impl_Diagram_isPlace.f a0_0 l0_1 a1).bind fun t107 => (if t107 = true then ((impl_Diagram_count.f k a0_0 l0_1 a1).bind fun t108 => (some t108)) else (some (-1)))) = some r := by rw [if_pos rfl] at H; exact H
  clear H
  have H := H1
  clear H1
  replace H := Option.bind_eq_some_iff.mp H
  obtain ⟨t107, A50, H⟩ := H
  replace H : (if t107 = true then ((impl_Diagram_count.f k a0_0 l0_1 a1).bind fun t108 => (some t108)) else (some (-1))) = some r := H
  have A5 := Aside0.mk A50
  clear A50
  by_cases c6 : t107 = true
  ·subst c6
   have H1 : ((impl_Diagram_count.f k a0_0 l0_1 a1).bind fun t108 => (some t108)) = some r := by rw [if_pos rfl] at H; exact H
   clear H
   have H := H1
   clear H1
   replace H := Option.bind_eq_some_iff.mp H
   obtain ⟨t108, A70, H⟩ := H
   replace H : (some t108) = some r := H
   have A7 := Aside0.mk A70
   clear A70
   obtain rfl := Option.some.inj H
   go_enter Try.func29, Try.ntmps29
   go_wp2_with (first | ((with_reducible refine gate_dst (N := 2) rfl ?_); refine box_event ?hg (N := 2) ?hd (cs := #[.int .i64 a0_0, .slice A0_1 l0_1.length c0_1]) (t := 25) ?hr ?_; (case hd => rfl); (case hg => rfl); (case hr => first | (go_simp; done) | (go_simp; rfl)); intro gb105 hg w8 hbox hb; have n0_ := Aside0.mk (below_step (by repeat (first | (with_reducible first | exact HB.out | apply bwA | apply bwN | apply bwD) | exact HB.out)) hb); have n1_ := Aside0.mk (hbox); have n2_ := Aside0.mk ((by rw [hg]; exact (below_size (by repeat (first | (with_reducible first | exact HB.out | apply bwA | apply bwN | apply bwD) | exact HB.out))) : w.heap.size ≤ gb105)); have n3_ := Aside0.mk ((by rw [hg]; exact (below_size (by repeat (first | (with_reducible first | exact HB.out | apply bwA | apply bwN | apply bwD) | exact HB.out))) : w.heap.size ≤ gb105)); clear HB; have HB := n0_; have BK105 := n1_; have GW105 := n2_; have GE105 := n3_; clear n0_ n1_ n2_ n3_; clear hb hbox hg; have hcz9_0 : w8.cell? ⟨gb105, 0, none⟩ = some (.int .i64 a0_0) := (blk_cell BK105.out 0).trans rfl; have hcz9_1 : w8.cell? ⟨gb105, 1, none⟩ = some (.slice A0_1 l0_1.length c0_1) := (blk_cell BK105.out 1).trans rfl; have hfz9_0 := blk_frozen BK105.out 0; have hfz9_1 := blk_frozen BK105.out 1) | ((with_reducible refine gate_callee (f := 17) rfl ?_); refine goesL_ (some 6) rfl rfl Try.func17 (by kernel_rfl) rfl #[.agg #[.int .i64 a0_0, .slice A0_1 l0_1.length c0_1]] rfl lmB ?_; (with_reducible refine (impl_DiagramValid.calls a0_0 _ _ l0_1 true _ ?side1 ?side2 A3.out).mono ?_); (case side1 => repeat (first | exact (Kd.C_below HR0_1.out HB.out) | (with_reducible refine Kd.C_alloc ?_ _) | (with_reducible refine Kd.C_drewN ?_ _) | (with_reducible refine Kd.C_drew ?_))); (case side2 => exact HC0_1.out); rintro e w10 ⟨rfl, hb⟩; refine ⟨_, rfl, ?_⟩; have n0_ := Aside0.mk (blk_below (g := gb105) (o := .cells #[.int .i64 a0_0, .slice A0_1 l0_1.length c0_1] 25 (0, 0)) (bvK BK105.out) hb); have n1_ := Aside0.mk (below_step (by repeat (first | (with_reducible first | exact HB.out | apply bwA | apply bwN | apply bwD | refine below_set ?_ GE105.out) | exact HB.out)) hb); clear BK105; clear HB; have BK105 := n0_; have HB := n1_; clear n0_ n1_; (try clear hb); (try clear hb2); (try clear hk); (try clear hi); have hcz11_0 : w10.cell? ⟨gb105, 0, none⟩ = some (.int .i64 a0_0) := (blk_cell BK105.out 0).trans rfl; have hcz11_1 : w10.cell? ⟨gb105, 1, none⟩ = some (.slice A0_1 l0_1.length c0_1) := (blk_cell BK105.out 1).trans rfl; have hfz11_0 := blk_frozen BK105.out 0; have hfz11_1 := blk_frozen BK105.out 1) | (go_at_call 53; (with_reducible refine (impl_Diagram_isPlace.calls a0_0 _ _ l0_1 a1 true _ ?side1 ?side2 A5.out).mono ?_); (case side1 => repeat (first | exact (Kd.C_below HR0_1.out HB.out) | (with_reducible refine Kd.C_alloc ?_ _) | (with_reducible refine Kd.C_drewN ?_ _) | (with_reducible refine Kd.C_drew ?_))); (case side2 => exact HC0_1.out); rintro e w12 ⟨rfl, hb⟩; have n0_ := Aside0.mk (blk_below (g := gb105) (o := .cells #[.int .i64 a0_0, .slice A0_1 l0_1.length c0_1] 25 (0, 0)) (bvK BK105.out) hb); have n1_ := Aside0.mk (below_step (by repeat (first | (with_reducible first | exact HB.out | apply bwA | apply bwN | apply bwD | refine below_set ?_ GE105.out) | exact HB.out)) hb); clear BK105; clear HB; have BK105 := n0_; have HB := n1_; clear n0_ n1_; (try clear hb); (try clear hb2); (try clear hk); (try clear hi); have hcz13_0 : w12.cell? ⟨gb105, 0, none⟩ = some (.int .i64 a0_0) := (blk_cell BK105.out 0).trans rfl; have hcz13_1 : w12.cell? ⟨gb105, 1, none⟩ = some (.slice A0_1 l0_1.length c0_1) := (blk_cell BK105.out 1).trans rfl; have hfz13_0 := blk_frozen BK105.out 0; have hfz13_1 := blk_frozen BK105.out 1) | ((with_reducible refine gate_callee (f := 73) rfl ?_); refine goesL_ (some 16) rfl rfl Try.func73 (by kernel_rfl) rfl #[.agg #[.int .i64 a0_0, .slice A0_1 l0_1.length c0_1], .int .i64 a1] rfl lmB ?_; (with_reducible refine (impl_Diagram_count.calls k a0_0 _ _ l0_1 a1 t108 _ ?side1 ?side2 A7.out).mono ?_); (case side1 => repeat (first | exact (Kd.C_below HR0_1.out HB.out) | (with_reducible refine Kd.C_alloc ?_ _) | (with_reducible refine Kd.C_drewN ?_ _) | (with_reducible refine Kd.C_drew ?_))); (case side2 => exact HC0_1.out); rintro e w14 ⟨rfl, hb⟩; refine ⟨_, rfl, ?_⟩; have n0_ := Aside0.mk (blk_below (g := gb105) (o := .cells #[.int .i64 a0_0, .slice A0_1 l0_1.length c0_1] 25 (0, 0)) (bvK BK105.out) hb); have n1_ := Aside0.mk (below_step (by repeat (first | (with_reducible first | exact HB.out | apply bwA | apply bwN | apply bwD | refine below_set ?_ GE105.out) | exact HB.out)) hb); clear BK105; clear HB; have BK105 := n0_; have HB := n1_; clear n0_ n1_; (try clear hb); (try clear hb2); (try clear hk); (try clear hi)))
   go_ret
   exact ⟨ers, by repeat (first | (with_reducible first | exact HB.out | apply bwA | apply bwN | apply bwD | refine below_set ?_ GE105.out) | exact HB.out)⟩
  ·replace c6 := Bool.eq_false_iff.mpr c6
   subst c6
   have H1 : (some (-1)) = some r := by rw [if_neg (show ¬ (false = true) by decide)] at H; exact H
   clear H
   have H := H1
   clear H1
   obtain rfl := Option.some.inj H
   go_enter Try.func29, Try.ntmps29
   go_wp2_with (first | ((with_reducible refine gate_dst (N := 2) rfl ?_); refine box_event ?hg (N := 2) ?hd (cs := #[.int .i64 a0_0, .slice A0_1 l0_1.length c0_1]) (t := 25) ?hr ?_; (case hd => rfl); (case hg => rfl); (case hr => first | (go_simp; done) | (go_simp; rfl)); intro gb105 hg w15 hbox hb; have n0_ := Aside0.mk (below_step (by repeat (first | (with_reducible first | exact HB.out | apply bwA | apply bwN | apply bwD) | exact HB.out)) hb); have n1_ := Aside0.mk (hbox); have n2_ := Aside0.mk ((by rw [hg]; exact (below_size (by repeat (first | (with_reducible first | exact HB.out | apply bwA | apply bwN | apply bwD) | exact HB.out))) : w.heap.size ≤ gb105)); have n3_ := Aside0.mk ((by rw [hg]; exact (below_size (by repeat (first | (with_reducible first | exact HB.out | apply bwA | apply bwN | apply bwD) | exact HB.out))) : w.heap.size ≤ gb105)); clear HB; have HB := n0_; have BK105 := n1_; have GW105 := n2_; have GE105 := n3_; clear n0_ n1_ n2_ n3_; clear hb hbox hg; have hcz16_0 : w15.cell? ⟨gb105, 0, none⟩ = some (.int .i64 a0_0) := (blk_cell BK105.out 0).trans rfl; have hcz16_1 : w15.cell? ⟨gb105, 1, none⟩ = some (.slice A0_1 l0_1.length c0_1) := (blk_cell BK105.out 1).trans rfl; have hfz16_0 := blk_frozen BK105.out 0; have hfz16_1 := blk_frozen BK105.out 1) | ((with_reducible refine gate_callee (f := 17) rfl ?_); refine goesL_ (some 6) rfl rfl Try.func17 (by kernel_rfl) rfl #[.agg #[.int .i64 a0_0, .slice A0_1 l0_1.length c0_1]] rfl lmB ?_; (with_reducible refine (impl_DiagramValid.calls a0_0 _ _ l0_1 true _ ?side1 ?side2 A3.out).mono ?_); (case side1 => repeat (first | exact (Kd.C_below HR0_1.out HB.out) | (with_reducible refine Kd.C_alloc ?_ _) | (with_reducible refine Kd.C_drewN ?_ _) | (with_reducible refine Kd.C_drew ?_))); (case side2 => exact HC0_1.out); rintro e w17 ⟨rfl, hb⟩; refine ⟨_, rfl, ?_⟩; have n0_ := Aside0.mk (blk_below (g := gb105) (o := .cells #[.int .i64 a0_0, .slice A0_1 l0_1.length c0_1] 25 (0, 0)) (bvK BK105.out) hb); have n1_ := Aside0.mk (below_step (by repeat (first | (with_reducible first | exact HB.out | apply bwA | apply bwN | apply bwD | refine below_set ?_ GE105.out) | exact HB.out)) hb); clear BK105; clear HB; have BK105 := n0_; have HB := n1_; clear n0_ n1_; (try clear hb); (try clear hb2); (try clear hk); (try clear hi); have hcz18_0 : w17.cell? ⟨gb105, 0, none⟩ = some (.int .i64 a0_0) := (blk_cell BK105.out 0).trans rfl; have hcz18_1 : w17.cell? ⟨gb105, 1, none⟩ = some (.slice A0_1 l0_1.length c0_1) := (blk_cell BK105.out 1).trans rfl; have hfz18_0 := blk_frozen BK105.out 0; have hfz18_1 := blk_frozen BK105.out 1) | (go_at_call 53; (with_reducible refine (impl_Diagram_isPlace.calls a0_0 _ _ l0_1 a1 false _ ?side1 ?side2 A5.out).mono ?_); (case side1 => repeat (first | exact (Kd.C_below HR0_1.out HB.out) | (with_reducible refine Kd.C_alloc ?_ _) | (with_reducible refine Kd.C_drewN ?_ _) | (with_reducible refine Kd.C_drew ?_))); (case side2 => exact HC0_1.out); rintro e w19 ⟨rfl, hb⟩; have n0_ := Aside0.mk (blk_below (g := gb105) (o := .cells #[.int .i64 a0_0, .slice A0_1 l0_1.length c0_1] 25 (0, 0)) (bvK BK105.out) hb); have n1_ := Aside0.mk (below_step (by repeat (first | (with_reducible first | exact HB.out | apply bwA | apply bwN | apply bwD | refine below_set ?_ GE105.out) | exact HB.out)) hb); clear BK105; clear HB; have BK105 := n0_; have HB := n1_; clear n0_ n1_; (try clear hb); (try clear hb2); (try clear hk); (try clear hi)))
   go_ret
   exact ⟨ers, by repeat (first | (with_reducible first | exact HB.out | apply bwA | apply bwN | apply bwD | refine below_set ?_ GE105.out) | exact HB.out)⟩
 ·replace c4 := Bool.eq_false_iff.mpr c4
  subst c4
  have H1 : (some (-1)) = some r := by rw [if_neg (show ¬ (false = true) by decide)] at H; exact H
  clear H
  have H := H1
  clear H1
  obtain rfl := Option.some.inj H
  go_enter Try.func29, Try.ntmps29
  go_wp2_with (first | ((with_reducible refine gate_dst (N := 2) rfl ?_); refine box_event ?hg (N := 2) ?hd (cs := #[.int .i64 a0_0, .slice A0_1 l0_1.length c0_1]) (t := 25) ?hr ?_; (case hd => rfl); (case hg => rfl); (case hr => first | (go_simp; done) | (go_simp; rfl)); intro gb105 hg w20 hbox hb; have n0_ := Aside0.mk (below_step (by repeat (first | (with_reducible first | exact HB.out | apply bwA | apply bwN | apply bwD) | exact HB.out)) hb); have n1_ := Aside0.mk (hbox); have n2_ := Aside0.mk ((by rw [hg]; exact (below_size (by repeat (first | (with_reducible first | exact HB.out | apply bwA | apply bwN | apply bwD) | exact HB.out))) : w.heap.size ≤ gb105)); have n3_ := Aside0.mk ((by rw [hg]; exact (below_size (by repeat (first | (with_reducible first | exact HB.out | apply bwA | apply bwN | apply bwD) | exact HB.out))) : w.heap.size ≤ gb105)); clear HB; have HB := n0_; have BK105 := n1_; have GW105 := n2_; have GE105 := n3_; clear n0_ n1_ n2_ n3_; clear hb hbox hg; have hcz21_0 : w20.cell? ⟨gb105, 0, none⟩ = some (.int .i64 a0_0) := (blk_cell BK105.out 0).trans rfl; have hcz21_1 : w20.cell? ⟨gb105, 1, none⟩ = some (.slice A0_1 l0_1.length c0_1) := (blk_cell BK105.out 1).trans rfl; have hfz21_0 := blk_frozen BK105.out 0; have hfz21_1 := blk_frozen BK105.out 1) | ((with_reducible refine gate_callee (f := 17) rfl ?_); refine goesL_ (some 6) rfl rfl Try.func17 (by kernel_rfl) rfl #[.agg #[.int .i64 a0_0, .slice A0_1 l0_1.length c0_1]] rfl lmB ?_; (with_reducible refine (impl_DiagramValid.calls a0_0 _ _ l0_1 false _ ?side1 ?side2 A3.out).mono ?_); (case side1 => repeat (first | exact (Kd.C_below HR0_1.out HB.out) | (with_reducible refine Kd.C_alloc ?_ _) | (with_reducible refine Kd.C_drewN ?_ _) | (with_reducible refine Kd.C_drew ?_))); (case side2 => exact HC0_1.out); rintro e w22 ⟨rfl, hb⟩; refine ⟨_, rfl, ?_⟩; have n0_ := Aside0.mk (blk_below (g := gb105) (o := .cells #[.int .i64 a0_0, .slice A0_1 l0_1.length c0_1] 25 (0, 0)) (bvK BK105.out) hb); have n1_ := Aside0.mk (below_step (by repeat (first | (with_reducible first | exact HB.out | apply bwA | apply bwN | apply bwD | refine below_set ?_ GE105.out) | exact HB.out)) hb); clear BK105; clear HB; have BK105 := n0_; have HB := n1_; clear n0_ n1_; (try clear hb); (try clear hb2); (try clear hk); (try clear hi)))
  go_ret
  exact ⟨ers, by repeat (first | (with_reducible first | exact HB.out | apply bwA | apply bwN | apply bwD | refine below_set ?_ GE105.out) | exact HB.out)⟩

/-- A state of type 106 at block g of W; what its slices lead to came in by w0. -/
def IsS106 (w0 W : World) (g : Nat) (f0 : List Int) (f1 : Int) : Prop := ∃ A0 c0, W.heap[g]? = some (.cells #[.slice A0 f0.length c0, .int .i64 f1] 106 (0, 0)) ∧ w0.heap.size ≤ g ∧ Kd.C (Kd.int .u8) w0 A0 f0.length f0
theorem IsS106.grown {w0 W : World} {g : Nat} {f0 : List Int} {f1 : Int} {W1 : World} {row : Option Nat} (h : IsS106 w0 W g f0 f1) (hw : W.grownBy W1 row) (hne : some g ≠ row) : IsS106 w0 W1 g f0 f1 := by
 obtain ⟨A0, c0, hb, hg, hr0⟩ := h
 exact ⟨A0, c0, blk_grown hb hw hne, hg, hr0⟩
theorem IsS106.own_neN {w0 W : World} {g : Nat} {f0 : List Int} {f1 : Int} {α : Type} {d : Kd α} {e : Nat} {base : Nat} {ok : Nat → Prop} {v : Value} {xs : List α} (h : IsS106 w0 W g f0 f1) (ho : Kd.N d e W base ok v xs) (ht : e ≠ 106) : some g ≠ v.ownBlock := by
 obtain ⟨A0, c0, hb, hg, hr0⟩ := h
 exact Kd.N_ne ho hb ht
theorem IsS106.fresh {w0 W : World} {g : Nat} {f0 : List Int} {f1 : Int} (h : IsS106 w0 W g f0 f1) : ∀ k, W.heap.size ≤ k → k ≠ g := by
 obtain ⟨A0, c0, hb, hg, hr0⟩ := h
 exact Kd.freshB hb
theorem IsS106.kept {w0 W : World} {g : Nat} {f0 : List Int} {f1 : Int} {W1 : World} {S : Nat → Prop} (h : IsS106 w0 W g f0 f1) (hk : Kept W W1 S) (hne : ¬ S g) : IsS106 w0 W1 g f0 f1 := by
 obtain ⟨A0, c0, hb, hg, hr0⟩ := h
 exact ⟨A0, c0, blk_kept hb hk hne, hg, hr0⟩
theorem IsS106.below {w0 W : World} {g : Nat} {f0 : List Int} {f1 : Int} {W1 : World} (h : IsS106 w0 W g f0 f1) (hw : Below W.heap.size W W1) : IsS106 w0 W1 g f0 f1 := h.grown (grown_of_below hw none) (by simp)
theorem IsS106.alloc {w0 W : World} {g : Nat} {f0 : List Int} {f1 : Int} (h : IsS106 w0 W g f0 f1) (o : Obj) : IsS106 w0 (W.alloc o) g f0 f1 := h.below (below_alloc (Below.refl _ _) o)
theorem IsS106.drewN {w0 W : World} {g : Nat} {f0 : List Int} {f1 : Int} (h : IsS106 w0 W g f0 f1) (m : Nat) : IsS106 w0 (W.drewN m) g f0 f1 := h
theorem IsS106.drew {w0 W : World} {g : Nat} {f0 : List Int} {f1 : Int} (h : IsS106 w0 W g f0 f1) : IsS106 w0 W.drew g f0 f1 := h
theorem IsS106.at_ {w0 W : World} {g : Nat} {f0 : List Int} {f1 : Int} {w' : World} {m : Nat} (hq : W.drewN m = w') (h : IsS106 w0 W g f0 f1) : IsS106 w0 w' g f0 f1 := by subst hq; exact IsS106.drewN h m
theorem IsS106.apart {w0 W : World} {g : Nat} {f0 : List Int} {f1 : Int} {α : Type} {d : Kd α} {e : Nat} {base : Nat} {ok : Nat → Prop} {v : Value} {xs : List α} (h : IsS106 w0 W g f0 f1) (ho : d.R e W base ok v xs) (ht : ∀ q, q ∈ e :: d.E → q ≠ 106) : d.R e W base (fun k => ok k ∧ k ≠ g) v xs := by
 obtain ⟨A0, c0, hb, hg, hr0⟩ := h
 exact Kd.R_types ho hb ht
theorem IsS106.own_ne {w0 W : World} {g : Nat} {f0 : List Int} {f1 : Int} {α : Type} {d : Kd α} {e : Nat} {base : Nat} {ok : Nat → Prop} {v : Value} {xs : List α} (h : IsS106 w0 W g f0 f1) (ho : d.R e W base ok v xs) (ht : e ≠ 106) : some g ≠ v.ownBlock := by
 obtain ⟨A0, c0, hb, hg, hr0⟩ := h
 exact Kd.R_ne ho hb ht
theorem IsS106.apartQ {w0 W : World} {g : Nat} {f0 : List Int} {f1 : Int} {α : Type} {d : Kd α} {e : Nat} {base : Nat} {ok : Nat → Prop} {v : Value} {xs : List α} (h : IsS106 w0 W g f0 f1) (ho : d.Q e W base ok v xs) (ht : ∀ q, q ∈ e :: d.E → q ≠ 106) : d.Q e W base (fun k => ok k ∧ k ≠ g) v xs := by
 obtain ⟨A0, c0, hb, hg, hr0⟩ := h
 exact Kd.Q_types ho hb ht
theorem IsS106.own_neQ {w0 W : World} {g : Nat} {f0 : List Int} {f1 : Int} {α : Type} {d : Kd α} {e : Nat} {base : Nat} {ok : Nat → Prop} {v : Value} {xs : List α} (h : IsS106 w0 W g f0 f1) (ho : d.Q e W base ok v xs) (ht : e ≠ 106) : some g ≠ v.ownBlock := by
 obtain ⟨A0, c0, hb, hg, hr0⟩ := h
 exact Kd.Q_ne ho hb ht
theorem IsS106.apartS {w0 W : World} {g : Nat} {f0 : List Int} {f1 : Int} {α : Type} {d : Kd α} {e : Nat} {base : Nat} {ok : Nat → Prop} {v : Value} {xs : List α} (h : IsS106 w0 W g f0 f1) (ho : d.S e W base ok v xs) (ht : ∀ q, q ∈ e :: d.E → q ≠ 106) : d.S e W base (fun k => ok k ∧ k ≠ g) v xs := by
 obtain ⟨A0, c0, hb, hg, hr0⟩ := h
 exact Kd.S_types ho hb ht
theorem IsS106.own_neS {w0 W : World} {g : Nat} {f0 : List Int} {f1 : Int} {α : Type} {d : Kd α} {e : Nat} {base : Nat} {ok : Nat → Prop} {v : Value} {xs : List α} (h : IsS106 w0 W g f0 f1) (ho : d.S e W base ok v xs) (ht : e ≠ 106) : some g ≠ v.ownBlock := by
 obtain ⟨A0, c0, hb, hg, hr0⟩ := h
 exact Kd.S_ne ho hb ht
theorem IsS106.lt {w0 W : World} {g : Nat} {f0 : List Int} {f1 : Int} (h : IsS106 w0 W g f0 f1) : g < W.heap.size := by
 obtain ⟨A0, c0, hb, hg, hr0⟩ := h
 exact blk_lt hb
theorem IsS106.ge {w0 W : World} {g : Nat} {f0 : List Int} {f1 : Int} (h : IsS106 w0 W g f0 f1) : w0.heap.size ≤ g := by
 obtain ⟨A0, c0, hb, hg, hr0⟩ := h
 exact hg
theorem IsS106.ne_blk {w0 W : World} {g : Nat} {f0 : List Int} {f1 : Int} {a : Nat} {cs : Array Value} {t : TypeId} {fr : Nat × Nat} (h : IsS106 w0 W g f0 f1) (hb2 : W.heap[a]? = some (.cells cs t fr)) (ht : t ≠ 106) : g ≠ a := by
 obtain ⟨A0, c0, hb, hg, hr0⟩ := h
 rintro rfl
 rw [hb] at hb2
 injection hb2 with hb2
 injection hb2 with _ ht2
 exact ht ht2.symm
theorem IsS106.far {w0 W : World} {g : Nat} {f0 : List Int} {f1 : Int} {p : Addr} (h : IsS106 w0 W g f0 f1) (hne : g ≠ p.block) (u : Value) : IsS106 w0 (W.setCell p u) g f0 f1 := by
 obtain ⟨A0, c0, hb, hg, hr0⟩ := h
 exact ⟨A0, c0, blk_far hb hne u, hg, hr0⟩
theorem cellS106_0 {W : World} {g : Nat} {A0 : Option Addr} {c0 : Nat} {f0 : List Int} {f1 : Int} (h : W.heap[g]? = some (.cells #[.slice A0 f0.length c0, .int .i64 f1] 106 (0, 0))) : W.cell? ⟨g, 0, none⟩ = some (.slice A0 f0.length c0) := (blk_cell h 0).trans rfl
theorem cellS106_1 {W : World} {g : Nat} {A0 : Option Addr} {c0 : Nat} {f0 : List Int} {f1 : Int} (h : W.heap[g]? = some (.cells #[.slice A0 f0.length c0, .int .i64 f1] 106 (0, 0))) : W.cell? ⟨g, 1, none⟩ = some (.int .i64 f1) := (blk_cell h 1).trans rfl
theorem IsS106.set_1 {w0 W : World} {g : Nat} {f0 : List Int} {f1 : Int} (h : IsS106 w0 W g f0 f1) (x : Int) : IsS106 w0 (W.setCell ⟨g, 1, none⟩ (.int .i64 x)) g f0 x := by
 obtain ⟨A0, c0, hb, hg, hr0⟩ := h
 exact ⟨A0, c0, by simpa using blk_set hb 1 (.int .i64 x), hg, hr0⟩
theorem IsS106.new (w0 W : World) (A0 : Option Addr) (c0 : Nat) (f0 : List Int) (f1 : Int) (hB : Below w0.heap.size w0 W) (hr0 : Kd.C (Kd.int .u8) w0 A0 f0.length f0) : IsS106 w0 (W.alloc (.cells #[.slice A0 f0.length c0, .int .i64 f1] 106)) W.heap.size f0 f1 := ⟨A0, c0, by simpa using heap_alloc_new W _, hB.size, hr0⟩

/-! ### spec_l40Open: function 47 -/
def spec_l40Open.f (l0 : List Int) : Option (List Int × Int) := if (l0.length : Int) > 2000 then (if 2000 ≤ (l0.length : Int) then (some (l0.take 2000, 0)) else (none)) else (some (l0, 0))
set_option maxHeartbeats 8000000 in
set_option maxRecDepth 100000 in
theorem spec_l40Open.calls (A0 : Option Addr) (c0 : Nat) (l0 : List Int) (r1 : List Int) (r2 : Int) (w0 w : World) (hB : Below w0.heap.size w0 w) (hr0 : Kd.C (Kd.int .u8) w0 A0 l0.length l0) (hc0 : l0.length ≤ c0) (h : spec_l40Open.f l0 = some (r1, r2)) :
  Calls Try.prog 47 #[.slice A0 l0.length c0] w fun e w' => ∃ g_ : Nat, e = .returned (.pointer (some ⟨g_, 0, none⟩)) ∧ IsS106 w0 w' g_ r1 r2 ∧ Below w0.heap.size w0 w' ∧ Below w.heap.size w w' := by
 have hu106 := Try.underlying106
 have HR0 := Aside0.mk hr0
 have HC0 := Aside0.mk hc0
 clear hr0 hc0
 have HBW := Aside0.mk (Below.refl w.heap.size w)
 have HW0 := Aside0.mk hB.size
 have HB := Aside0.mk hB
 clear hB
 have H : (if (l0.length : Int) > 2000 then (if 2000 ≤ (l0.length : Int) then (some (l0.take 2000, 0)) else (none)) else (some (l0, 0))) = some (r1, r2) := h
 clear h
 by_cases c2 : (l0.length : Int) > 2000
 ·rw [if_pos c2] at H
  have c2b0 : decide (2000 < (l0.length : Int)) = true := decide_eq_true c2
  have c2b1 : decide (2000 < l0.length) = true := decide_eq_true (by omega)
  clear c2
  by_cases c3 : 2000 ≤ (l0.length : Int)
  ·rw [if_pos c3] at H
   have c3b0 := eq_true c3
   have c3b1 : decide (2000 ≤ (l0.length : Int)) = true := decide_eq_true c3
   clear c3
   simp only [Option.some.injEq, Prod.mk.injEq] at H
   obtain ⟨rfl, rfl⟩ := H
   obtain ⟨i04, hi04, _, hsz4, _⟩ := info_parts info5
   obtain ⟨hcut4, hA4, hC4⟩ := print_take_of (P := Try.prog) (Value.int .u8) 0 22 5 .i64 Try.underlying22 hi04 hsz4 A0 c0 l0 2000 (by omega) (oda) HC0.out
   have HR109 := Aside0.mk (Kd.C_of_reads (h1 := fun _ => rfl) (hA4 _ (Kd.reads_of_C HR0.out)))
   have HC109 := Aside0.mk hC4
   clear hA4 hC4 hi04 hsz4
   go_enter Try.func47, Try.ntmps47
   go_wp2_with (first | ((with_reducible refine gate_dst (N := 10) rfl ?_); refine box_event ?hg (N := 10) ?hd (cs := #[.slice A0 (l0.take 2000).length c0, .int .i64 0]) (t := 106) ?hr ?_; (case hd => rfl); (case hg => rfl); (case hr => first | (go_simp; done) | (go_simp; rfl)); intro gb110 hg w5 hbox hb; have n0_ := Aside0.mk (below_step HBW.out hb); have n1_ := Aside0.mk (below_step (by repeat (first | (with_reducible first | exact HB.out | apply bwA | apply bwN | apply bwD) | exact HB.out)) hb); have n2_ := Aside0.mk (hbox); have n3_ := Aside0.mk ((by rw [hg]; exact (below_size (by repeat (first | (with_reducible first | exact HBW.out | apply bwA | apply bwN | apply bwD) | exact HBW.out))) : w.heap.size ≤ gb110)); have n4_ := Aside0.mk ((Nat.le_trans HW0.out (by rw [hg]; exact (below_size (by repeat (first | (with_reducible first | exact HBW.out | apply bwA | apply bwN | apply bwD) | exact HBW.out))) : w.heap.size ≤ gb110) : w0.heap.size ≤ gb110)); clear HBW; clear HB; have HBW := n0_; have HB := n1_; have BK110 := n2_; have GW110 := n3_; have GE110 := n4_; clear n0_ n1_ n2_ n3_ n4_; clear hb hbox hg))
   go_ret
   exact ⟨_, rfl, (show IsS106 w0 _ gb110 (l0.take 2000) 0 from ⟨_, _, by (with_reducible repeat (first | refine blk_drewN ?_ _ | refine blk_drew ?_ | refine blk_alloc ?_ _)); exact BK110.out, GE110.out, HR109.out⟩), by repeat (first | (with_reducible first | exact HB.out | apply bwA | apply bwN | apply bwD | refine below_set ?_ GE110.out) | exact HB.out), by repeat (first | (with_reducible first | exact HBW.out | apply bwA | apply bwN | apply bwD | refine below_set ?_ GW110.out) | exact HBW.out)⟩
  ·rw [if_neg c3] at H
   exact absurd H (by simp)
 ·rw [if_neg c2] at H
  have c2b0 : decide (2000 < (l0.length : Int)) = false := decide_eq_false c2
  have c2b1 : decide (2000 < l0.length) = false := decide_eq_false (by omega)
  clear c2
  simp only [Option.some.injEq, Prod.mk.injEq] at H
  obtain ⟨rfl, rfl⟩ := H
  go_enter Try.func47, Try.ntmps47
  go_wp2_with (first | ((with_reducible refine gate_dst (N := 10) rfl ?_); refine box_event ?hg (N := 10) ?hd (cs := #[.slice A0 l0.length c0, .int .i64 0]) (t := 106) ?hr ?_; (case hd => rfl); (case hg => rfl); (case hr => first | (go_simp; done) | (go_simp; rfl)); intro gb111 hg w6 hbox hb; have n0_ := Aside0.mk (below_step HBW.out hb); have n1_ := Aside0.mk (below_step (by repeat (first | (with_reducible first | exact HB.out | apply bwA | apply bwN | apply bwD) | exact HB.out)) hb); have n2_ := Aside0.mk (hbox); have n3_ := Aside0.mk ((by rw [hg]; exact (below_size (by repeat (first | (with_reducible first | exact HBW.out | apply bwA | apply bwN | apply bwD) | exact HBW.out))) : w.heap.size ≤ gb111)); have n4_ := Aside0.mk ((Nat.le_trans HW0.out (by rw [hg]; exact (below_size (by repeat (first | (with_reducible first | exact HBW.out | apply bwA | apply bwN | apply bwD) | exact HBW.out))) : w.heap.size ≤ gb111) : w0.heap.size ≤ gb111)); clear HBW; clear HB; have HBW := n0_; have HB := n1_; have BK111 := n2_; have GW111 := n3_; have GE111 := n4_; clear n0_ n1_ n2_ n3_ n4_; clear hb hbox hg))
  go_ret
  exact ⟨_, rfl, (show IsS106 w0 _ gb111 l0 0 from ⟨_, _, by (with_reducible repeat (first | refine blk_drewN ?_ _ | refine blk_drew ?_ | refine blk_alloc ?_ _)); exact BK111.out, GE111.out, HR0.out⟩), by repeat (first | (with_reducible first | exact HB.out | apply bwA | apply bwN | apply bwD | refine below_set ?_ GE111.out) | exact HB.out), by repeat (first | (with_reducible first | exact HBW.out | apply bwA | apply bwN | apply bwD | refine below_set ?_ GW111.out) | exact HBW.out)⟩

/-! ### spec_l40Rd_pick: function 49 -/
def spec_l40Rd_pick.j0 : Nat → Int → Bool → List Int → Int → Option (Int × Int)
 | 0, _, _, _, _ => none
 | k + 1, x1, x24, x1000, x1001 => if x24 = true then (some (0, x1001)) else (if (wrap64 (x1001 - 1)) < (x1000.length : Int) then (if 0 ≤ (wrap64 (x1001 - 1)) then (if x1 = 0 then (none) else (some (Int.tmod (wrap64 (rd x1000 (wrap64 (x1001 - 1)))) x1, x1001))) else (none)) else (if (x1000.length : Int) = 0 then (none) else (if 0 ≤ (Int.tmod (wrap64 (x1001 - 1)) (x1000.length : Int)) then (if (Int.tmod (wrap64 (x1001 - 1)) (x1000.length : Int)) < (x1000.length : Int) then (if 0 ≤ (Int.tmod (wrap64 ((wrap64 ((wrap64 (x1001 - 1)) * 7)) + 3)) (x1000.length : Int)) then (if (Int.tmod (wrap64 ((wrap64 ((wrap64 (x1001 - 1)) * 7)) + 3)) (x1000.length : Int)) < (x1000.length : Int) then (if x1 = 0 then (none) else (some (Int.tmod (Go.bits .xor .i64 (wrap64 ((wrap64 ((wrap64 ((wrap64 ((wrap64 (rd x1000 (Int.tmod (wrap64 (x1001 - 1)) (x1000.length : Int)))) * 131)) + (wrap64 ((wrap64 (rd x1000 (Int.tmod (wrap64 ((wrap64 ((wrap64 (x1001 - 1)) * 7)) + 3)) (x1000.length : Int)))) * 1117)))) + (wrap64 ((wrap64 (x1001 - 1)) * 29)))) + (wrap64 ((wrap64 (Int.tdiv (wrap64 (x1001 - 1)) (x1000.length : Int))) * 53)))) (wrap64 (Int.tdiv (wrap64 ((wrap64 ((wrap64 ((wrap64 ((wrap64 (rd x1000 (Int.tmod (wrap64 (x1001 - 1)) (x1000.length : Int)))) * 131)) + (wrap64 ((wrap64 (rd x1000 (Int.tmod (wrap64 ((wrap64 ((wrap64 (x1001 - 1)) * 7)) + 3)) (x1000.length : Int)))) * 1117)))) + (wrap64 ((wrap64 (x1001 - 1)) * 29)))) + (wrap64 ((wrap64 (Int.tdiv (wrap64 (x1001 - 1)) (x1000.length : Int))) * 53)))) 64))) x1, x1001))) else (none)) else (none)) else (none)) else (none))))
def spec_l40Rd_pick.f (k : Nat) (s0_0 : List Int) (s0_1 : Int) (a1 : Int) : Option (Int × Int) := if a1 < 1 then (spec_l40Rd_pick.j0 k a1 true s0_0 (wrap64 (s0_1 + 1))) else (spec_l40Rd_pick.j0 k a1 ((s0_0.length : Int) == 0) s0_0 (wrap64 (s0_1 + 1)))
theorem spec_l40Rd_pick.mono_l : ∀ k, (∀ y0 y1 y2 y3, LeO (spec_l40Rd_pick.j0 k y0 y1 y2 y3) (spec_l40Rd_pick.j0 (k + 1) y0 y1 y2 y3))
 | 0 => fun _ _ _ _ r h => by simp [spec_l40Rd_pick.j0] at h
 | k + 1 => by
  have ih0 := spec_l40Rd_pick.mono_l k
  ·intro y0 y1 y2 y3
   unfold spec_l40Rd_pick.j0
   repeat' first
   | (with_reducible exact ih0 _ _ _ _)
   | (with_reducible exact LeO.refl _)
   | (with_reducible exact LeO.none _)
   | (with_reducible refine LeO.ite ?_ ?_)
   | (with_reducible refine LeO.bind ?_ (fun _ => ?_))
   | exact ih0 _ _ _ _
   | exact LeO.none _
   | refine LeO.ite ?_ ?_
   | refine LeO.bind ?_ (fun _ => ?_)
theorem spec_l40Rd_pick.mono : ∀ a0 a1 a2 k, LeO (spec_l40Rd_pick.f k a0 a1 a2) (spec_l40Rd_pick.f (k + 1) a0 a1 a2) := by
 intro a0 a1 a2 k
 have ih0 := spec_l40Rd_pick.mono_l k
 unfold spec_l40Rd_pick.f
 repeat' first
   | (with_reducible exact ih0 _ _ _ _)
   | (with_reducible exact LeO.refl _)
   | (with_reducible exact LeO.none _)
   | (with_reducible refine LeO.ite ?_ ?_)
   | (with_reducible refine LeO.bind ?_ (fun _ => ?_))
   | exact ih0 _ _ _ _
   | exact LeO.none _
   | refine LeO.ite ?_ ?_
   | refine LeO.bind ?_ (fun _ => ?_)
set_option maxHeartbeats 8000000 in
set_option maxRecDepth 100000 in
theorem spec_l40Rd_pick.calls (k : Nat) (g : Nat) (s0_0 : List Int) (s0_1 : Int) (a1 : Int) (r1 : Int) (r2 : Int) (w0 w : World) (hI : IsS106 w0 w g s0_0 s0_1) (hB : Below w0.heap.size w0 w) (h : spec_l40Rd_pick.f k s0_0 s0_1 a1 = some (r1, r2)) :
  Calls Try.prog 49 #[.pointer (some ⟨g, 0, none⟩), .int .i64 a1] w fun e w' => e = .returned (.int .i64 r1) ∧ IsS106 w0 w' g s0_0 r2 ∧ Below w0.heap.size w0 w' ∧ KeepBut w w' g none := by
 have HI0 := Aside0.mk hI
 have HK := Aside0.mk (KeepBut.refl w g none)
 have HL := Aside0.mk hB.size
 clear hI
 have HW0 := Aside0.mk hB.size
 have HB := Aside0.mk hB
 clear hB
 have H : (if a1 < 1 then (spec_l40Rd_pick.j0 k a1 true s0_0 (wrap64 (s0_1 + 1))) else (spec_l40Rd_pick.j0 k a1 ((s0_0.length : Int) == 0) s0_0 (wrap64 (s0_1 + 1)))) = some (r1, r2) := h
 clear h
 have HC3 := Aside0.mk H
 clear H
 obtain ⟨ASz4_0, cSz4_0, HGz4, hgz4, HSz4_0⟩ := HI0.out
 have hcz4_0 := cellS106_0 HGz4
 have hcz4_1 := cellS106_1 HGz4
 have hfz4_1 := blk_frozen HGz4 1
 clear HGz4 hgz4
 go_enter Try.func49, Try.ntmps49
 go_upto_region 2 with (fail)
 repeat (go_quiet (fail); go_upto_region 2 with (fail))
 go_cut [24] (fun v24 wc => ∃ (kq : Nat) (x24_2 : Bool), v24 = .bool x24_2 ∧ Aside0 (spec_l40Rd_pick.j0 kq a1 x24_2 s0_0 (wrap64 (s0_1 + 1)) = some (r1, r2)) ∧ Aside0 (kq ≤ k) ∧ Aside0 (IsS106 w0 wc g s0_0 (wrap64 (s0_1 + 1))) ∧ Aside0 (KeepBut w wc g none) ∧ Aside0 (Below w0.heap.size w0 wc))
 case first =>
  have H := HC3.out
  clear HC3
  by_cases c5 : a1 < 1
  ·rw [if_pos c5] at H
   have c5b0 : decide (a1 < 1) = true := decide_eq_true c5
   clear c5
   (first | rw [c5b0] | (simp only [i64_w, i32_w]; rw [c5b0]) | skip)
   have H' := Aside0.mk H
   clear H
   go_wp2
   repeat (go_quiet (fail); try go_wp2)
   go_meet
   case rel => exact ⟨_, (true), rsd, H', ⟨by first | omega | exact Nat.le_refl _⟩, ⟨by repeat (first | (with_reducible first | exact HI0.out | apply IsS106.alloc | apply IsS106.drewN | apply IsS106.drew | apply IsS106.set_1) | exact HI0.out)⟩, ⟨by repeat (first | (with_reducible first | exact HK.out | apply KeepBut.set_ | apply keep_drewN | apply keep_drew | apply keep_alloc) | exact HK.out)⟩, ⟨by repeat (first | (with_reducible first | exact HB.out | apply bwA | apply bwN | apply bwD | refine below_set ?_ (IsS106.ge HI0.out)) | exact HB.out)⟩⟩
  ·rw [if_neg c5] at H
   have c5b0 : decide (a1 < 1) = false := decide_eq_false c5
   clear c5
   (first | rw [c5b0] | (simp only [i64_w, i32_w]; rw [c5b0]) | skip)
   have H' := Aside0.mk H
   clear H
   obtain ⟨ASz6_0, cSz6_0, HGz6, hgz6, HSz6_0⟩ := HI0.out
   have hcz6_0 := cellS106_0 HGz6
   have hcz6_1 := cellS106_1 HGz6
   have hfz6_1 := blk_frozen HGz6 1
   clear HGz6 hgz6
   go_wp2
   repeat (go_quiet (fail); try go_wp2)
   go_meet
   case rel => exact ⟨_, (((s0_0.length : Int) == 0)), rsd, H', ⟨by first | omega | exact Nat.le_refl _⟩, ⟨by repeat (first | (with_reducible first | exact HI0.out | apply IsS106.alloc | apply IsS106.drewN | apply IsS106.drew | apply IsS106.set_1) | exact HI0.out)⟩, ⟨by repeat (first | (with_reducible first | exact HK.out | apply KeepBut.set_ | apply keep_drewN | apply keep_drew | apply keep_alloc) | exact HK.out)⟩, ⟨by repeat (first | (with_reducible first | exact HB.out | apply bwA | apply bwN | apply bwD | refine below_set ?_ (IsS106.ge HI0.out)) | exact HB.out)⟩⟩
 case rest =>
  clear HC3
  try clear p2
  try clear c4
  try clear c5
  try clear c5b0
  try clear p6
  try clear hcz4_0
  try clear hcz4_1
  try clear hcz6_0
  try clear hcz6_1
  try clear hfz4_1
  try clear hfz6_1
  obtain ⟨kq, x24_2, rfl, HA, HJ2, HI0, HK, HB⟩ := hcut
  cases kq with
  | zero => exact absurd HA.out (by simp [spec_l40Rd_pick.j0])
  | succ kj2 =>
   have H := HA.out
   clear HA
   simp only [spec_l40Rd_pick.j0] at H
   by_cases c7 : x24_2 = true
   ·subst c7
    have H1 : (some (0, (wrap64 (s0_1 + 1)))) = some (r1, r2) := by rw [if_pos rfl] at H; exact H
    clear H
    have H := H1
    clear H1
    simp only [Option.some.injEq, Prod.mk.injEq] at H
    obtain ⟨rfl, rfl⟩ := H
    go_wp2
    repeat (go_quiet (fail); try go_wp2)
    go_ret
    exact ⟨ers, by repeat (first | (with_reducible first | exact HI0.out | apply IsS106.alloc | apply IsS106.drewN | apply IsS106.drew | apply IsS106.set_1) | exact HI0.out), by repeat (first | (with_reducible first | exact HB.out | apply bwA | apply bwN | apply bwD | refine below_set ?_ (IsS106.ge HI0.out)) | exact HB.out), by repeat (first | (with_reducible first | exact HK.out | apply KeepBut.set_ | apply keep_drewN | apply keep_drew | apply keep_alloc) | exact HK.out)⟩
   ·replace c7 := Bool.eq_false_iff.mpr c7
    subst c7
    have H1 : (if (wrap64 ((wrap64 (s0_1 + 1)) - 1)) < (s0_0.length : Int) then (if 0 ≤ (wrap64 ((wrap64 (s0_1 + 1)) - 1)) then (if a1 = 0 then (none) else (some (Int.tmod (wrap64 (rd s0_0 (wrap64 ((wrap64 (s0_1 + 1)) - 1)))) a1, (wrap64 (s0_1 + 1))))) else (none)) else (if (s0_0.length : Int) = 0 then (none) else (if 0 ≤ (Int.tmod (wrap64 ((wrap64 (s0_1 + 1)) - 1)) (s0_0.length : Int)) then (if (Int.tmod (wrap64 ((wrap64 (s0_1 + 1)) - 1)) (s0_0.length : Int)) < (s0_0.length : Int) then (if 0 ≤ (Int.tmod (wrap64 ((wrap64 ((wrap64 ((wrap64 (s0_1 + 1)) - 1)) * 7)) + 3)) (s0_0.length : Int)) then (if (Int.tmod (wrap64 ((wrap64 ((wrap64 ((wrap64 (s0_1 + 1)) - 1)) * 7)) + 3)) (s0_0.length : Int)) < (s0_0.length : Int) then (if a1 = 0 then (none) else (some (Int.tmod (Go.bits .xor .i64 (wrap64 ((wrap64 ((wrap64 ((wrap64 ((wrap64 (rd s0_0 (Int.tmod (wrap64 ((wrap64 (s0_1 + 1)) - 1)) (s0_0.length : Int)))) * 131)) + (wrap64 ((wrap64 (rd s0_0 (Int.tmod (wrap64 ((wrap64 ((wrap64 ((wrap64 (s0_1 + 1)) - 1)) * 7)) + 3)) (s0_0.length : Int)))) * 1117)))) + (wrap64 ((wrap64 ((wrap64 (s0_1 + 1)) - 1)) * 29)))) + (wrap64 ((wrap64 (Int.tdiv (wrap64 ((wrap64 (s0_1 + 1)) - 1)) (s0_0.length : Int))) * 53)))) (wrap64 (Int.tdiv (wrap64 ((wrap64 ((wrap64 ((wrap64 ((wrap64 (rd s0_0 (Int.tmod (wrap64 ((wrap64 (s0_1 + 1)) - 1)) (s0_0.length : Int)))) * 131)) + (wrap64 ((wrap64 (rd s0_0 (Int.tmod (wrap64 ((wrap64 ((wrap64 ((wrap64 (s0_1 + 1)) - 1)) * 7)) + 3)) (s0_0.length : Int)))) * 1117)))) + (wrap64 ((wrap64 ((wrap64 (s0_1 + 1)) - 1)) * 29)))) + (wrap64 ((wrap64 (Int.tdiv (wrap64 ((wrap64 (s0_1 + 1)) - 1)) (s0_0.length : Int))) * 53)))) 64))) a1, (wrap64 (s0_1 + 1))))) else (none)) else (none)) else (none)) else (none)))) = some (r1, r2) := by rw [if_neg (show ¬ (false = true) by decide)] at H; exact H
    clear H
    have H := H1
    clear H1
    by_cases c8 : (wrap64 ((wrap64 (s0_1 + 1)) - 1)) < (s0_0.length : Int)
    ·rw [if_pos c8] at H
     have c8b0 : decide ((wrap64 ((wrap64 (s0_1 + 1)) - 1)) < (s0_0.length : Int)) = true := decide_eq_true c8
     clear c8
     obtain ⟨ji9, hji9⟩ : ∃ j_ : Int, (wrap64 ((wrap64 (s0_1 + 1)) - 1)) = j_ := ⟨_, rfl⟩
     replace H : (if 0 ≤ (ji9) then (if a1 = 0 then (none) else (some (Int.tmod (wrap64 (rd s0_0 (ji9))) a1, (wrap64 (s0_1 + 1))))) else (none)) = some (r1, r2) := by first | (rw [hji9] at H; exact H) | (simp only [hji9] at H ⊢; exact H)
     (try rw [hji9] at c8b0)
     have hji9w : (IntKind.i64.wrap ((wrap64 (s0_1 + 1)) - 1)) = ji9 := (i64_w _).trans hji9
     by_cases c10 : 0 ≤ (ji9)
     ·rw [if_pos c10] at H
      have c10b0 : decide (0 ≤ (ji9)) = true := decide_eq_true c10
      clear c10
      by_cases c11 : a1 = 0
      ·rw [if_pos c11] at H
       exact absurd H (by simp)
      ·rw [if_neg c11] at H
       have c11b0 : (a1 == 0) = false := beq_eq_false_iff_ne.mpr c11
       have c11b1 : (a1 != 0) = true := bne_iff_ne.mpr c11
       simp only [Option.some.injEq, Prod.mk.injEq] at H
       obtain ⟨rfl, rfl⟩ := H
       obtain ⟨ASz12_0, cSz12_0, HGz12, hgz12, HSz12_0⟩ := HI0.out
       have hcz12_0 := cellS106_0 HGz12
       have hcz12_1 := cellS106_1 HGz12
       have hfz12_1 := blk_frozen HGz12 1
       clear HGz12 hgz12
       have p112 : 0 ≤ ((ji9) : Int) := oda
       have q112 : (ji9) < (s0_0.length : Int) := oda
       obtain ⟨ad112, e112, hx112_0⟩ := Kd.at_int HSz12_0 (ji9) p112 q112
       cases e112
       replace hx112_0 := pw_cell_below HB.out hx112_0
       replace p112 := eq_true p112
       replace q112 := eq_true q112
       go_wp2
       repeat (go_quiet (fail); try go_wp2)
       go_ret
       exact ⟨by first | rfl | (simp [errW_none, errW_some] <;> rfl) | (simp only [← hji9]; first | rfl | (simp [errW_none, errW_some] <;> rfl)) | (simp [*, errW_none, errW_some] <;> rfl), by repeat (first | (with_reducible first | exact HI0.out | apply IsS106.alloc | apply IsS106.drewN | apply IsS106.drew | apply IsS106.set_1) | exact HI0.out), by repeat (first | (with_reducible first | exact HB.out | apply bwA | apply bwN | apply bwD | refine below_set ?_ (IsS106.ge HI0.out)) | exact HB.out), by repeat (first | (with_reducible first | exact HK.out | apply KeepBut.set_ | apply keep_drewN | apply keep_drew | apply keep_alloc) | exact HK.out)⟩
     ·rw [if_neg c10] at H
      exact absurd H (by simp)
    ·rw [if_neg c8] at H
     have c8b0 : decide ((wrap64 ((wrap64 (s0_1 + 1)) - 1)) < (s0_0.length : Int)) = false := decide_eq_false c8
     clear c8
     by_cases c13 : (s0_0.length : Int) = 0
     ·rw [if_pos c13] at H
      exact absurd H (by simp)
     ·rw [if_neg c13] at H
      have c13b0 : ((s0_0.length : Int) == 0) = false := beq_eq_false_iff_ne.mpr c13
      have c13b1 : ((s0_0.length : Int) != 0) = true := bne_iff_ne.mpr c13
      have c13b2 : ¬ (s0_0 = []) := fun h_ => c13 (by rw [h_]; rfl)
      obtain ⟨ji14, hji14⟩ : ∃ j_ : Int, (Int.tmod (wrap64 ((wrap64 (s0_1 + 1)) - 1)) (s0_0.length : Int)) = j_ := ⟨_, rfl⟩
      replace H : (if 0 ≤ (ji14) then (if (ji14) < (s0_0.length : Int) then (if 0 ≤ (Int.tmod (wrap64 ((wrap64 ((wrap64 ((wrap64 (s0_1 + 1)) - 1)) * 7)) + 3)) (s0_0.length : Int)) then (if (Int.tmod (wrap64 ((wrap64 ((wrap64 ((wrap64 (s0_1 + 1)) - 1)) * 7)) + 3)) (s0_0.length : Int)) < (s0_0.length : Int) then (if a1 = 0 then (none) else (some (Int.tmod (Go.bits .xor .i64 (wrap64 ((wrap64 ((wrap64 ((wrap64 ((wrap64 (rd s0_0 (ji14))) * 131)) + (wrap64 ((wrap64 (rd s0_0 (Int.tmod (wrap64 ((wrap64 ((wrap64 ((wrap64 (s0_1 + 1)) - 1)) * 7)) + 3)) (s0_0.length : Int)))) * 1117)))) + (wrap64 ((wrap64 ((wrap64 (s0_1 + 1)) - 1)) * 29)))) + (wrap64 ((wrap64 (Int.tdiv (wrap64 ((wrap64 (s0_1 + 1)) - 1)) (s0_0.length : Int))) * 53)))) (wrap64 (Int.tdiv (wrap64 ((wrap64 ((wrap64 ((wrap64 ((wrap64 (rd s0_0 (ji14))) * 131)) + (wrap64 ((wrap64 (rd s0_0 (Int.tmod (wrap64 ((wrap64 ((wrap64 ((wrap64 (s0_1 + 1)) - 1)) * 7)) + 3)) (s0_0.length : Int)))) * 1117)))) + (wrap64 ((wrap64 ((wrap64 (s0_1 + 1)) - 1)) * 29)))) + (wrap64 ((wrap64 (Int.tdiv (wrap64 ((wrap64 (s0_1 + 1)) - 1)) (s0_0.length : Int))) * 53)))) 64))) a1, (wrap64 (s0_1 + 1))))) else (none)) else (none)) else (none)) else (none)) = some (r1, r2) := by first | (rw [hji14] at H; exact H) | (simp only [hji14] at H ⊢; exact H)
      by_cases c15 : 0 ≤ (ji14)
      ·rw [if_pos c15] at H
       have c15b0 : decide (0 ≤ (ji14)) = true := decide_eq_true c15
       clear c15
       by_cases c16 : (ji14) < (s0_0.length : Int)
       ·rw [if_pos c16] at H
        have c16b0 : decide ((ji14) < (s0_0.length : Int)) = true := decide_eq_true c16
        clear c16
        obtain ⟨ji17, hji17⟩ : ∃ j_ : Int, (Int.tmod (wrap64 ((wrap64 ((wrap64 ((wrap64 (s0_1 + 1)) - 1)) * 7)) + 3)) (s0_0.length : Int)) = j_ := ⟨_, rfl⟩
        replace H : (if 0 ≤ (ji17) then (if (ji17) < (s0_0.length : Int) then (if a1 = 0 then (none) else (some (Int.tmod (Go.bits .xor .i64 (wrap64 ((wrap64 ((wrap64 ((wrap64 ((wrap64 (rd s0_0 (ji14))) * 131)) + (wrap64 ((wrap64 (rd s0_0 (ji17))) * 1117)))) + (wrap64 ((wrap64 ((wrap64 (s0_1 + 1)) - 1)) * 29)))) + (wrap64 ((wrap64 (Int.tdiv (wrap64 ((wrap64 (s0_1 + 1)) - 1)) (s0_0.length : Int))) * 53)))) (wrap64 (Int.tdiv (wrap64 ((wrap64 ((wrap64 ((wrap64 ((wrap64 (rd s0_0 (ji14))) * 131)) + (wrap64 ((wrap64 (rd s0_0 (ji17))) * 1117)))) + (wrap64 ((wrap64 ((wrap64 (s0_1 + 1)) - 1)) * 29)))) + (wrap64 ((wrap64 (Int.tdiv (wrap64 ((wrap64 (s0_1 + 1)) - 1)) (s0_0.length : Int))) * 53)))) 64))) a1, (wrap64 (s0_1 + 1))))) else (none)) else (none)) = some (r1, r2) := by first | (rw [hji17] at H; exact H) | (simp only [hji17] at H ⊢; exact H)
        by_cases c18 : 0 ≤ (ji17)
        ·rw [if_pos c18] at H
         have c18b0 : decide (0 ≤ (ji17)) = true := decide_eq_true c18
         clear c18
         by_cases c19 : (ji17) < (s0_0.length : Int)
         ·rw [if_pos c19] at H
          have c19b0 : decide ((ji17) < (s0_0.length : Int)) = true := decide_eq_true c19
          clear c19
          by_cases c20 : a1 = 0
          ·rw [if_pos c20] at H
           exact absurd H (by simp)
          ·rw [if_neg c20] at H
           have c20b0 : (a1 == 0) = false := beq_eq_false_iff_ne.mpr c20
           have c20b1 : (a1 != 0) = true := bne_iff_ne.mpr c20
           simp only [Option.some.injEq, Prod.mk.injEq] at H
           obtain ⟨rfl, rfl⟩ := H
           obtain ⟨ASz21_0, cSz21_0, HGz21, hgz21, HSz21_0⟩ := HI0.out
           have hcz21_0 := cellS106_0 HGz21
           have hcz21_1 := cellS106_1 HGz21
           have hfz21_1 := blk_frozen HGz21 1
           clear HGz21 hgz21
           have p113 : 0 ≤ ((ji14) : Int) := oda
           have q113 : (ji14) < (s0_0.length : Int) := oda
           obtain ⟨ad113, e113, hx113_0⟩ := Kd.at_int HSz21_0 (ji14) p113 q113
           cases e113
           replace hx113_0 := pw_cell_below HB.out hx113_0
           replace p113 := eq_true p113
           replace q113 := eq_true q113
           have p114 : 0 ≤ ((ji17) : Int) := oda
           have q114 : (ji17) < (s0_0.length : Int) := oda
           obtain ⟨ad114, e114, hx114_0⟩ := Kd.at_int HSz21_0 (ji17) p114 q114
           obtain rfl : ad113 = ad114 := (by injection e114)
           replace hx114_0 := pw_cell_below HB.out hx114_0
           replace p114 := eq_true p114
           replace q114 := eq_true q114
           go_wp2
           repeat (go_quiet (fail); try go_wp2)
           go_ret
           exact ⟨by first | rfl | (simp [errW_none, errW_some] <;> rfl) | (simp only [← hji14, ← hji17]; first | rfl | (simp [errW_none, errW_some] <;> rfl)) | (simp [*, errW_none, errW_some] <;> rfl), by repeat (first | (with_reducible first | exact HI0.out | apply IsS106.alloc | apply IsS106.drewN | apply IsS106.drew | apply IsS106.set_1) | exact HI0.out), by repeat (first | (with_reducible first | exact HB.out | apply bwA | apply bwN | apply bwD | refine below_set ?_ (IsS106.ge HI0.out)) | exact HB.out), by repeat (first | (with_reducible first | exact HK.out | apply KeepBut.set_ | apply keep_drewN | apply keep_drew | apply keep_alloc) | exact HK.out)⟩
         ·rw [if_neg c19] at H
          exact absurd H (by simp)
        ·rw [if_neg c18] at H
         exact absurd H (by simp)
       ·rw [if_neg c16] at H
        exact absurd H (by simp)
      ·rw [if_neg c15] at H
       exact absurd H (by simp)

/-! ### spec_l40Rd_num: function 51 -/
def spec_l40Rd_num.f (k : Nat) (s0_0 : List Int) (s0_1 : Int) (l1 : List Int) : Option (Int × Int) := (spec_l40Rd_pick.f k s0_0 s0_1 (l1.length : Int)).bind fun bt115 => (if 0 ≤ bt115.1 then (if bt115.1 < (l1.length : Int) then (some (rd l1 bt115.1, bt115.2)) else (none)) else (none))
theorem spec_l40Rd_num.mono : ∀ a0 a1 a2 k, LeO (spec_l40Rd_num.f k a0 a1 a2) (spec_l40Rd_num.f (k + 1) a0 a1 a2) := by
 intro a0 a1 a2 k
 unfold spec_l40Rd_num.f
 repeat' first
   | (with_reducible exact spec_l40Rd_pick.mono _ _ _ _)
   | (with_reducible exact LeO.refl _)
   | (with_reducible exact LeO.none _)
   | (with_reducible refine LeO.ite ?_ ?_)
   | (with_reducible refine LeO.bind ?_ (fun _ => ?_))
   | exact spec_l40Rd_pick.mono _ _ _ _
   | exact LeO.none _
   | refine LeO.ite ?_ ?_
   | refine LeO.bind ?_ (fun _ => ?_)
set_option maxHeartbeats 8000000 in
set_option maxRecDepth 100000 in
theorem spec_l40Rd_num.calls (k : Nat) (g : Nat) (s0_0 : List Int) (s0_1 : Int) (A1 : Option Addr) (c1 : Nat) (l1 : List Int) (r1 : Int) (r2 : Int) (w0 w : World) (hI : IsS106 w0 w g s0_0 s0_1) (hB : Below w0.heap.size w0 w) (hr1 : Kd.C (Kd.int .i64) w A1 l1.length l1) (hc1 : l1.length ≤ c1) (hf1 : ∀ ad, A1 = some ad → 0 < l1.length → ad.block ≠ g) (h : spec_l40Rd_num.f k s0_0 s0_1 l1 = some (r1, r2)) :
  Calls Try.prog 51 #[.pointer (some ⟨g, 0, none⟩), .slice A1 l1.length c1] w fun e w' => e = .returned (.int .i64 r1) ∧ IsS106 w0 w' g s0_0 r2 ∧ Below w0.heap.size w0 w' ∧ KeepBut w w' g none := by
 have HR1 := Aside0.mk hr1
 have HC1 := Aside0.mk hc1
 clear hr1 hc1
 have HI0 := Aside0.mk hI
 have HK := Aside0.mk (KeepBut.refl w g none)
 have HL := Aside0.mk hB.size
 clear hI
 have HW0 := Aside0.mk hB.size
 have HB := Aside0.mk hB
 clear hB
 have H : ((spec_l40Rd_pick.f k s0_0 s0_1 (l1.length : Int)).bind fun bt115 => (if 0 ≤ bt115.1 then (if bt115.1 < (l1.length : Int) then (some (rd l1 bt115.1, bt115.2)) else (none)) else (none))) = some (r1, r2) := h
 clear h
 replace H := Option.bind_eq_some_iff.mp H
 obtain ⟨⟨t115, t116⟩, A30, H⟩ := H
 replace H : (if 0 ≤ t115 then (if t115 < (l1.length : Int) then (some (rd l1 t115, t116)) else (none)) else (none)) = some (r1, r2) := H
 have A3 := Aside0.mk A30
 clear A30
 by_cases c4 : 0 ≤ t115
 ·rw [if_pos c4] at H
  have c4b0 : decide (0 ≤ t115) = true := decide_eq_true c4
  clear c4
  by_cases c5 : t115 < (l1.length : Int)
  ·rw [if_pos c5] at H
   have c5b0 : decide (t115 < (l1.length : Int)) = true := decide_eq_true c5
   clear c5
   simp only [Option.some.injEq, Prod.mk.injEq] at H
   obtain ⟨rfl, rfl⟩ := H
   go_enter Try.func51, Try.ntmps51
   go_wp2_with (first | ((with_reducible refine gate_callee (f := 49) rfl ?_); refine goesL_ (some 9) rfl rfl Try.func49 (by kernel_rfl) rfl #[.pointer (some ⟨g, 0, none⟩), .int .i64 (l1.length : Int)] rfl lmB ?_; (with_reducible refine (spec_l40Rd_pick.calls k g s0_0 s0_1 (l1.length : Int) t115 t116 w0 _ ?side1 ?side2 A3.out).mono ?_); (case side1 => repeat (first | (with_reducible first | exact HI0.out | apply IsS106.alloc | apply IsS106.drewN | apply IsS106.drew | apply IsS106.set_1) | exact HI0.out)); (case side2 => repeat (first | (with_reducible first | exact HB.out | apply bwA | apply bwN | apply bwD | refine below_set ?_ (IsS106.ge HI0.out)) | exact HB.out)); rintro e w6 ⟨rfl, hi, hb, hk⟩; refine ⟨_, rfl, ?_⟩; have n0_ := Aside0.mk (KeepBut.trans (by repeat (first | (with_reducible first | exact HK.out | apply KeepBut.set_ | apply keep_drewN | apply keep_drew | apply keep_alloc) | exact HK.out)) hk (.inl rfl)); have n1_ := Aside0.mk (hb); have n2_ := Aside0.mk (hi); clear HK; clear HB; clear HI0; have HK := n0_; have HB := n1_; have HI0 := n2_; clear n0_ n1_ n2_; (try clear hb); (try clear hb2); (try clear hk); (try clear hi); have p117 : 0 ≤ (t115 : Int) := oda; have q117 : t115 < (l1.length : Int) := oda; obtain ⟨ad117, e117, hx117_0⟩ := Kd.at_int HR1.out t115 p117 q117; cases e117; replace hx117_0 := keep_cell HK.out hx117_0 (by first | (rw [add_block]; exact hf1 _ rfl (by omega)) | exact hf1 _ rfl (by omega) | exact hf1 ad117 rfl (by omega)); replace p117 := eq_true p117; replace q117 := eq_true q117))
   go_ret
   exact ⟨ers, by repeat (first | (with_reducible first | exact HI0.out | apply IsS106.alloc | apply IsS106.drewN | apply IsS106.drew | apply IsS106.set_1) | exact HI0.out), by repeat (first | (with_reducible first | exact HB.out | apply bwA | apply bwN | apply bwD | refine below_set ?_ (IsS106.ge HI0.out)) | exact HB.out), by repeat (first | (with_reducible first | exact HK.out | apply KeepBut.set_ | apply keep_drewN | apply keep_drew | apply keep_alloc) | exact HK.out)⟩
  ·rw [if_neg c5] at H
   exact absurd H (by simp)
 ·rw [if_neg c4] at H
  exact absurd H (by simp)

/-! ### spec_l7Nodes: function 110 -/
def spec_l7Nodes.f (a0_0 : Int) (l0_1 : List (S121)) : Option (Int) := some (wrap64 ((wrap64 (1 + a0_0)) + (l0_1.length : Int)))
set_option maxHeartbeats 8000000 in
set_option maxRecDepth 100000 in
theorem spec_l7Nodes.calls (a0_0 : Int) (A0_1 : Option Addr) (c0_1 : Nat) (l0_1 : List (S121)) (r : Int) (w : World) (hr0_1 : Kd.C k121 w A0_1 l0_1.length l0_1) (hc0_1 : l0_1.length ≤ c0_1) (h : spec_l7Nodes.f a0_0 l0_1 = some r) :
  Calls Try.prog 110 #[.agg #[.int .i64 a0_0, .slice A0_1 l0_1.length c0_1]] w fun e w' => e = .returned (.int .i64 r) ∧ Below w.heap.size w w' := by
 have hu45 := Try.underlying45
 have HR0_1 := Aside0.mk hr0_1
 have HC0_1 := Aside0.mk hc0_1
 clear hr0_1 hc0_1
 have HB := Aside0.mk (Below.refl w.heap.size w)
 have H : (some (wrap64 ((wrap64 (1 + a0_0)) + (l0_1.length : Int)))) = some r := h
 clear h
 obtain rfl := Option.some.inj H
 go_enter Try.func110, Try.ntmps110
 go_wp2_with (first | ((with_reducible refine gate_dst (N := 1) rfl ?_); refine box_event ?hg (N := 1) ?hd (cs := #[.int .i64 a0_0, .slice A0_1 l0_1.length c0_1]) (t := 45) ?hr ?_; (case hd => rfl); (case hg => rfl); (case hr => first | (go_simp; done) | (go_simp; rfl)); intro gb118 hg w2 hbox hb; have n0_ := Aside0.mk (below_step (by repeat (first | (with_reducible first | exact HB.out | apply bwA | apply bwN | apply bwD) | exact HB.out)) hb); have n1_ := Aside0.mk (hbox); have n2_ := Aside0.mk ((by rw [hg]; exact (below_size (by repeat (first | (with_reducible first | exact HB.out | apply bwA | apply bwN | apply bwD) | exact HB.out))) : w.heap.size ≤ gb118)); have n3_ := Aside0.mk ((by rw [hg]; exact (below_size (by repeat (first | (with_reducible first | exact HB.out | apply bwA | apply bwN | apply bwD) | exact HB.out))) : w.heap.size ≤ gb118)); clear HB; have HB := n0_; have BK118 := n1_; have GW118 := n2_; have GE118 := n3_; clear n0_ n1_ n2_ n3_; clear hb hbox hg; have hcz3_0 : w2.cell? ⟨gb118, 0, none⟩ = some (.int .i64 a0_0) := (blk_cell BK118.out 0).trans rfl; have hcz3_1 : w2.cell? ⟨gb118, 1, none⟩ = some (.slice A0_1 l0_1.length c0_1) := (blk_cell BK118.out 1).trans rfl; have hfz3_0 := blk_frozen BK118.out 0; have hfz3_1 := blk_frozen BK118.out 1))
 go_ret
 exact ⟨ers, by repeat (first | (with_reducible first | exact HB.out | apply bwA | apply bwN | apply bwD | refine below_set ?_ GE118.out) | exact HB.out)⟩

end Go.Proofs.Ytpcompnmadpljaa.QFnDiagramOf
