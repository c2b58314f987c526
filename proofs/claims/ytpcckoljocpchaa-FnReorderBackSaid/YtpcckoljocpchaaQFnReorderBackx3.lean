-- Written by a program of this session (mk.py). Lean checks it.
import Derived.Test.YtpcckoljocpchaaQFnReorderBackx0
import Derived.Test.YtpcckoljocpchaaQFnReorderBackx2
namespace Go.Proofs.Ytpcckoljocpchaa.QFnReorderBack
open Go.RowKit Go.Proofs.YtpcckoljocpchaaW.PrintWords Go.Proofs.YtpcckoljocpchaaW.PrintLast Go.Proofs.YtpcckoljocpchaaW.PrintMore
attribute [local go_sem] max2_int min2_int max_two min_two max_three min_three max_four min_four   -- for this text's walks alone
set_option linter.unusedVariables false
set_option linter.unusedSimpArgs false

/-! ### spec_l8Rows: function 126 -/
def spec_l8Rows.f : Nat → Int → List S56 → List Int → Int → Option (Int × List S56 × Int)
 | 0, _, _, _, _ => none
 | k + 1, a0, l, vs, v =>
  if v = a0 then (if 0 < vs.length then some (a0, l, rd vs 0) else none)
  else if vs.length ≤ 1000000000000 then
   (spec_l8Rows.f k a0 l (vs.take (vs.length / 2)) (wrap64 (v + 1))).bind fun p1 => if p1.2.2 < 0 then some (a0, l, -1) else
   (spec_l8Rows.f k p1.1 p1.2.1 (vs.drop (vs.length / 2)) (wrap64 (v + 1))).bind fun p2 => spec_l8Add.f p2.1 p2.2.1 v p1.2.2 p2.2.2
  else none
theorem spec_l8Rows.le : ∀ (k : Nat) (a0 : Int) (l : List S56) (vs : List Int) (v : Int), LeO (spec_l8Rows.f k a0 l vs v) (spec_l8Rows.f (k + 1) a0 l vs v)
 | 0 => fun _ _ _ _ r h => by simp [spec_l8Rows.f] at h
 | k + 1 => fun a0 l vs v => by
  have ih := spec_l8Rows.le k
  rw [spec_l8Rows.f, spec_l8Rows.f]
  exact LeO.ite (LeO.refl _) (LeO.ite (LeO.bind (ih _ _ _ _) (fun p1 => LeO.ite (LeO.refl _) (LeO.bind (ih _ _ _ _) (fun p2 => LeO.refl _)))) (LeO.refl _))
theorem spec_l8Rows.mono : ∀ a0 l vs v k, LeO (spec_l8Rows.f k a0 l vs v) (spec_l8Rows.f (k + 1) a0 l vs v) := fun a0 l vs v k => spec_l8Rows.le k a0 l vs v
theorem spec_l8Rows.stays_set {base : Nat} {w w1 : World} {v v1 : Value} {xs ys : List S56} {g j : Nat} {cs : Array Value} {u : Value} (h : Ap.Stays k56 56 base w v xs w1 v1 ys) (hb : w1.heap[g]? = some (.cells cs 48 (0, 0))) : Ap.Stays k56 56 base w v xs (w1.setCell ⟨g, j, none⟩ u) v1 ys := fun ok0 u0 xs0 h0 hp => by
 obtain ⟨q1, q2⟩ := h ok0 u0 xs0 h0 hp
 exact ⟨Kd.R_set q1 hb (by decide) j u, q2⟩
theorem spec_l8Rows.own_ne {base : Nat} {w : World} {ok : Nat → Prop} {v : Value} {xs : List S56} {g : Nat} {cs : Array Value} (h : Kd.R k56 56 w base ok v xs) (hb : w.heap[g]? = some (.cells cs 48 (0, 0))) : ¬ v.ownBlock = some g := fun e => Kd.R_ne h hb (by decide) e.symm
def spec_l8Rows.T2 : Bool × List (List Nat × List Nat) := (true, [([], []), ([], []), ([1], [1]), ([2], [2]), ([0, 0], [0]), ([3, 4, 0, 1, 2, 3, 4], [3])])
def spec_l8Rows.B2 : List Nat := [0, 0, 2, 6, 1, 31]
theorem spec_l8Rows.tab2 : rtab .any (opsOf Try.f126 2) = spec_l8Rows.T2 := by kernel_rfl
theorem spec_l8Rows.bits2 : waitsOk spec_l8Rows.T2.2 spec_l8Rows.B2 = true := by kernel_rfl
def spec_l8Rows.T4 : Bool × List (List Nat × List Nat) := (true, [([], []), ([], []), ([], []), ([1, 2], [1, 2]), ([], []), ([4], [4]), ([0, 3, 5], [0, 3, 5]), ([6], [6]), ([7], [7]), ([7], [7]), ([], []), ([10, 8, 6, 0, 1, 2, 3, 4, 5, 6, 7, 8, 10], [8, 10]), ([9, 11, 0, 1, 2, 3, 4, 5, 6, 7, 8, 9, 10, 11], [9])])
def spec_l8Rows.B4 : List Nat := [0, 0, 0, 6, 0, 16, 63, 127, 255, 255, 0, 1535, 4095]
theorem spec_l8Rows.tab4 : rtab .any (opsOf Try.f126 4) = spec_l8Rows.T4 := by kernel_rfl
theorem spec_l8Rows.bits4 : waitsOk spec_l8Rows.T4.2 spec_l8Rows.B4 = true := by kernel_rfl
def spec_l8Rows.T7 : Bool × List (List Nat × List Nat) := (true, [([], []), ([], []), ([], []), ([1, 2], [1, 2]), ([], []), ([4], [4]), ([0, 3, 5], [0, 3, 5]), ([6], [6]), ([7], [7]), ([7], [7]), ([], []), ([10, 8, 6, 0, 1, 2, 3, 4, 5, 6, 7, 8, 10], [8, 10]), ([9, 11, 0, 1, 2, 3, 4, 5, 6, 7, 8, 9, 10, 11], [9])])
def spec_l8Rows.B7 : List Nat := [0, 0, 0, 6, 0, 16, 63, 127, 255, 255, 0, 1535, 4095]
theorem spec_l8Rows.tab7 : rtab .any (opsOf Try.f126 7) = spec_l8Rows.T7 := by kernel_rfl
theorem spec_l8Rows.bits7 : waitsOk spec_l8Rows.T7.2 spec_l8Rows.B7 = true := by kernel_rfl
set_option maxHeartbeats 16000000 in
set_option maxRecDepth 100000 in
theorem spec_l8Rows.core : ∀ (k : Nat) (a0 : Int) (u : Value) (l : List S56) (A2 : Option Addr) (c2 : Nat) (vs : List Int) (v r1 : Int) (r2 : List S56) (r3 : Int) (w0 w : World) (_ : Below w0.heap.size w0 w) (_ : Kd.R k56 56 w w0.heap.size (fun k_ => u.ownBlock = some k_) u l) (_ : ∀ W_, Kept w W_ (fun k_ => u.ownBlock = some k_) → Kd.C (Kd.int .i64) W_ A2 vs.length vs) (_ : vs.length ≤ c2) (_ : spec_l8Rows.f k a0 l vs v = some (r1, r2, r3)),
  Calls Try.prog 126 #[.agg #[.int .i64 a0, u], .slice A2 vs.length c2, .int .i64 v] w fun e w' => ∃ v1 : Value, e = .returned (.tuple #[.agg #[.int .i64 r1, v1], .int .i64 r3]) ∧ Kd.R k56 56 w' w0.heap.size (fun k_ => u.ownBlock = some k_ ∨ w.heap.size ≤ k_) v1 r2 ∧ Below w0.heap.size w0 w' ∧ Kept w w' (fun k_ => u.ownBlock = some k_) ∧ Ap.Stays k56 56 w0.heap.size w u l w' v1 r2
 | 0 => fun _ _ _ _ _ _ _ _ _ _ _ _ _ _ _ _ h => by simp [spec_l8Rows.f] at h
 | k + 1 => fun a0 u l A2 c2 vs v r1 r2 r3 w0 w hB ho hr hc h => by
  have IH := Aside0.mk (spec_l8Rows.core k)
  have hu25 := Try.underlying48
  have hu71 := Try.underlying56
  have hu49 := Try.underlying38
  obtain ⟨A, c, rfl⟩ := Kd.R_slice ho
  have HR := Aside0.mk ho
  have HB := Aside0.mk hB
  have HV := Aside0.mk hr
  have HC2 := Aside0.mk hc
  rw [spec_l8Rows.f] at h
  clear hB ho hr hc
  by_cases c1 : v = a0
  ·rw [if_pos c1] at h
   by_cases c3 : 0 < vs.length
   ·rw [if_pos c3] at h
    simp only [Option.some.injEq, Prod.mk.injEq] at h
    obtain ⟨rfl, rfl, rfl⟩ := h
    have c1' := c1.symm
    subst c1'
    have e1 : (a0 == a0) = true := beq_self_eq_true a0
    obtain ⟨ad, eA, _⟩ := Kd.at_int (HV.out w (Kept.refl _ _)) 0 (Int.le_refl _) (by omega)
    subst eA
    have e2 : decide ((0 : Int) < (vs.length : Int)) = true := decide_eq_true (by omega)
    have C2 := Aside0.mk c3
    obtain ⟨vv, hvv⟩ : ∃ vv, rd vs 0 = vv := ⟨_, rfl⟩
    rw [hvv]
    have VV := Aside0.mk hvv
    clear hvv
    go_enter Try.func126, Try.ntmps126
    go_upto_region 2 with (first | ((with_reducible refine gate_dst (N := 3) rfl ?_); refine box_event ?hg (N := 3) ?hd (cs := #[.int .i64 a0, .slice A l.length c]) (t := 48) ?hr ?_; (case hd => rfl); (case hg => rfl); (case hr => first | (go_simp; done) | (go_simp; rfl)); intro g0 hg0 w1 hbox hb; have BD1 := Aside0.mk hbox; have HB1 := Aside0.mk hb; have GD := Aside0.mk (show w.heap.size ≤ g0 from Nat.le_of_eq hg0.symm); clear hg0 hbox hb) | ((with_reducible refine gate_dst (N := 6) rfl ?_); refine box_event ?hg (N := 6) ?hd (cs := #[.int .i64 0, .slice none 0 0]) (t := 48) ?hr ?_; (case hd => rfl); (case hg => rfl); (case hr => first | (go_simp; done) | (go_simp; rfl)); intro gr hgr w2 hbox hb; have GR := Aside0.mk (show w.heap.size ≤ gr by rw [hgr]; exact HB1.out.size); have BR2 := Aside0.mk hbox; have GRD := Aside0.mk (show gr ≠ g0 from fun e_ => by have := blk_lt BD1.out; omega); have BD2 := Aside0.mk (blk_below BD1.out hb); have HB2 := Aside0.mk (below_step HB1.out hb); have d20 : w2.cell? ⟨g0, 0, none⟩ = some (.int .i64 a0) := (blk_cell BD2.out 0).trans rfl; have d21 : w2.cell? ⟨g0, 1, none⟩ = some (.slice A l.length c) := (blk_cell BD2.out 1).trans rfl; clear hgr hbox hb))
    refine start_ (n := 6) (S := fun w' => True) (ds := []) (Pt.bm 6 0) (by kernel_rfl) rfl rfl trivial (fun hHeld => ?_)
    refine with_tabW spec_l8Rows.tab2 spec_l8Rows.bits2 (fun HT_ HW_ => ?_)
    have BD3 := Aside0.mk (blk_drew BD2.out)
    have BR3 := Aside0.mk (blk_drew BR2.out)
    have HB3 := Aside0.mk (below_drew1 HB2.out)
    clear BD2 BR2 HB2 hHeld
    generalize w2.drew = w3 at BD3 BR3 HB3 ⊢
    refine Pt.pu 1 (some 18) (Pt.bm 6 2) (by kernel_rfl) ?_
    refine Pt.pu 2 (some 19) (v := .pointer (some (ad.add 0))) (Pt.bm 6 6) (by kernel_rfl) ?_ (hy := by refine Or.inl ⟨by rfl, ?_⟩; intro w'; first | (go_simp; done) | (go_simp; rfl))
    refine inv_at [0, 3, 4, 5] (fun a0_ b_ a' w' => a' = putSel a0_ b_ [(0, 17, .agg #[.int .i64 a0, .slice A l.length c]), (3, 20, .int .i64 vv), (5, 7, .int .i64 vv)] ∧ w'.heap[g0]? = some (.cells #[.int .i64 a0, .slice A l.length c] 48 (0, 0)) ∧ (b_ 4 = false → w'.heap[gr]? = some (.cells #[.int .i64 0, .slice none 0 0] 48 (0, 0))) ∧ (b_ 4 = true → w'.heap[gr]? = some (.cells #[.int .i64 a0, .slice A l.length c] 48 (0, 0))) ∧ Below w.heap.size w w') HT_.out HW_.out (by kernel_rfl) (by kernel_rfl) ?_ ?_ ?_
    ·exact ⟨by simp only [putSel, Bool.false_eq_true, if_false], BD3.out, fun _ => BR3.out, fun h_ => absurd h_ (by decide), HB3.out⟩
    ·clear BD3 BR3 HB3
     refine steps_cons ?_ ?_
     ·rintro b_ a' w' ⟨ha, Q_D, Q_Z, Q_F, Q_B⟩ hb_ hon hoff
      refine ⟨_, rfl, fun K hK => ?_⟩
      have e3 : a'.tmps[3]? = some (.pointer (some ⟨g0, 0, none⟩)) := by rw [ha]; exact (putSel_off rfl).trans rfl
      replace ha := Aside0.mk ha
      have hc0_ : w'.cell? ⟨g0, 0, none⟩ = some (.int .i64 a0) := (blk_cell Q_D 0).trans rfl
      have hc1_ : w'.cell? ⟨g0, 1, none⟩ = some (.slice A l.length c) := (blk_cell Q_D 1).trans rfl
      refine value_ (w1 := w') (v := .agg #[.int .i64 a0, .slice A l.length c]) (by rfl) rfl ?_ ?_
      ·go_simp
       (try simp only [i64_w])
       try rfl
      exact hK.out _ _ ⟨(by rw [ha.out]; exact putSel_upk 0 hb_ rfl rfl rfl), Q_D, Q_Z, Q_F, Q_B⟩
     refine steps_cons ?_ ?_
     ·rintro b_ a' w' ⟨ha, Q_D, Q_Z, Q_F, Q_B⟩ hb_ hon hoff
      refine ⟨_, rfl, fun K hK => ?_⟩
      have e19 : a'.tmps[19]? = some (.pointer (some (ad.add 0))) := by rw [ha]; exact (putSel_off rfl).trans rfl
      obtain ⟨ad2, eA, hx⟩ := Kd.at_int (HV.out w' (Kept.of_below Q_B _)) 0 (Int.le_refl _) (by have := C2.out; omega)
      cases eA
      rw [VV.out] at hx
      replace hx : w'.cell? ad = some (.int .i64 vv) := hx
      replace ha := Aside0.mk ha
      refine value_ (w1 := w') (v := .int .i64 vv) (by rfl) rfl ?_ ?_
      ·go_simp
       (try simp only [i64_w])
       try rfl
      exact hK.out _ _ ⟨(by rw [ha.out]; exact putSel_upk 1 hb_ rfl rfl rfl), Q_D, Q_Z, Q_F, Q_B⟩
     refine steps_cons ?_ ?_
     ·rintro b_ a' w' ⟨ha, Q_D, Q_Z, Q_F, Q_B⟩ hb_ hon hoff
      refine ⟨_, rfl, fun K hK => ?_⟩
      have Z17 := Q_Z hb_
      have e6 : a'.tmps[6]? = some (.pointer (some ⟨gr, 0, none⟩)) := by rw [ha]; exact (putSel_off rfl).trans rfl
      have e17 : a'.tmps[17]? = some (.agg #[.int .i64 a0, .slice A l.length c]) := by rw [ha]; exact putSel_on (e := (0, 17, .agg #[.int .i64 a0, .slice A l.length c])) 0 rfl rfl (hon 0 (by kernel_rfl)) rfl
      replace ha := Aside0.mk ha
      have hs0 : w'.cell? ⟨gr, 0, none⟩ = some (.int .i64 0) := (blk_cell Z17 0).trans rfl
      have hs1 : w'.cell? ⟨gr, 1, none⟩ = some (.slice none 0 0) := (blk_cell Z17 1).trans rfl
      have hf0 := blk_frozen Z17 0
      have hf1 := blk_frozen Z17 1
      have QD := Aside0.mk Q_D
      have QB := Aside0.mk Q_B
      have QZ := Aside0.mk Z17
      refine skip_ (w1 := ?_) (by rfl) rfl ?_ ?_
      rotate_left
      ·go_simp
       rfl
      exact hK.out _ _ ⟨(by rw [ha.out]; exact putSel_none (v := undef) rfl), blk_far (p := ⟨gr, 1, none⟩) (blk_far (p := ⟨gr, 0, none⟩) QD.out GRD.out.symm _) GRD.out.symm _, fun h_ => absurd ((up_self b_ 4).symm.trans h_) (by decide), fun _ => blk_put (blk_put QZ.out 0 _ rfl) 1 _ rfl, below_set (below_set QB.out GR.out) GR.out⟩
     refine steps_cons ?_ ?_
     ·rintro b_ a' w' ⟨ha, Q_D, Q_Z, Q_F, Q_B⟩ hb_ hon hoff
      refine ⟨_, rfl, fun K hK => ?_⟩
      have e20 : a'.tmps[20]? = some (.int .i64 vv) := by rw [ha]; exact putSel_on (e := (3, 20, .int .i64 vv)) 1 rfl rfl (hon 3 (by kernel_rfl)) rfl
      replace ha := Aside0.mk ha
      refine value_ (w1 := w') (v := .int .i64 vv) (by rfl) rfl ?_ ?_
      ·go_simp
       (try simp only [i64_w])
       try rfl
      exact hK.out _ _ ⟨(by rw [ha.out]; exact putSel_upk 2 hb_ rfl rfl rfl), Q_D, Q_Z, Q_F, Q_B⟩
     exact steps_nil
    rintro b_ a' w5 hall ⟨ha, Q_D, Q_Z, Q_F, Q_B⟩
    have hb0_ := hall 0 (by kernel_rfl)
    have hb3_ := hall 3 (by kernel_rfl)
    have hb4_ := hall 4 (by kernel_rfl)
    have hb5_ := hall 5 (by kernel_rfl)
    subst ha
    simp only [putSel, hb0_, hb3_, hb4_, hb5_, if_true, Act.put, List.setIfInBounds_toArray, List.set_cons_zero, List.set_cons_succ]
    have BF := Aside0.mk (Q_F hb4_)
    have HE := Aside0.mk Q_B
    clear hall hb0_ hb3_ hb4_ hb5_ Q_D Q_Z Q_F Q_B BD3 BR3 HB3
    try go_wp2
    refine bodyPost_ret (results_ct rfl _ _ gr 48 #[.int .i64 a0, .slice A l.length c] (0, 0) _ rfl BF.out Try.underlying48 rfl (by kernel_rfl)) rfl ?_
    exact ⟨_, rfl, Kd.R_below (Kd.R_mono HR.out (fun _ hk => .inl hk)) HE.out, below_then HB.out HB.out.size HE.out, Kept.of_below HE.out _, Ap.Stays.refl HE.out⟩
   ·rw [if_neg c3] at h
    cases h
  rw [if_neg c1] at h
  have e1 : (v == a0) = false := beq_eq_false_iff_ne.mpr c1
  clear c1
  by_cases cl : vs.length ≤ 1000000000000
  ·rw [if_pos cl] at h
   obtain ⟨hf, hhf⟩ : ∃ hf, vs.length / 2 = hf := ⟨_, rfl⟩
   rw [hhf] at h
   have hfl : hf ≤ vs.length := by omega
   have ehf : wrap64 ((vs.length : Int) / 2) = (hf : Int) := by
    unfold wrap64
    omega
   obtain ⟨i0q, hi0q, _, hszq, _⟩ := info_parts info3
   obtain ⟨AD, hAD⟩ : ∃ AD, (if c2 = hf then A2 else A2.map (·.add (hf * 1))) = AD := ⟨_, rfl⟩
   have elT : (vs.take hf).length = hf := by rw [List.length_take]; omega
   have elD : (vs.drop hf).length = vs.length - hf := List.length_drop
   have hcut4 : ∀ W : World, (Instr.slice 38 (.slice A2 vs.length c2) none (some (.int .i64 (hf : Int))) none).run Try.prog W = .ok (.slice A2 (vs.take hf).length c2) W := by
    rw [elT]
    exact cut_to (P := Try.prog) 38 3 .i64 Try.underlying38 hi0q A2 vs.length c2 (hf : Int) (by omega) (by omega) HC2.out
   have hcut7 : ∀ W : World, (Instr.slice 38 (.slice A2 vs.length c2) (some (.int .i64 (hf : Int))) none none).run Try.prog W = .ok (.slice AD (vs.drop hf).length (c2 - hf)) W := by
    rw [elD, ← hAD]
    exact cut_from (P := Try.prog) 38 3 .i64 Try.underlying38 hi0q 1 hszq A2 vs.length c2 (hf : Int) (by omega) (by omega)
   have HVT : Aside0 (∀ W_, Kept w W_ (fun k_ => (Value.slice A l.length c).ownBlock = some k_) → Kd.C (Kd.int .i64) W_ A2 (vs.take hf).length (vs.take hf)) := ⟨fun W_ hk_ => Kd.C_take (HV.out W_ hk_) hfl⟩
   have HVD : Aside0 (∀ W_, Kept w W_ (fun k_ => (Value.slice A l.length c).ownBlock = some k_) → Kd.C (Kd.int .i64) W_ AD (vs.drop hf).length (vs.drop hf)) := ⟨fun W_ hk_ => by rw [← hAD]; exact Kd.C_drop (HV.out W_ hk_) hfl HC2.out⟩
   have HCT : Aside0 ((vs.take hf).length ≤ c2) := ⟨by have := HC2.out; omega⟩
   have HCD : Aside0 ((vs.drop hf).length ≤ c2 - hf) := ⟨by have := HC2.out; omega⟩
   obtain ⟨⟨n1, l1, lo⟩, hp1, h2⟩ := Option.bind_eq_some_iff.mp h
   simp only at h2 hp1
   have P1 := Aside0.mk hp1
   have H := Aside0.mk h2
   clear h hp1 h2 hi0q hszq hAD elT elD hhf hfl
   generalize vs.take hf = vT at hcut4 HVT HCT P1
   generalize vs.drop hf = vD at hcut7 HVD HCD H
   clear cl
   go_enter Try.func126, Try.ntmps126
   go_upto_region 4 with (first | ((with_reducible refine gate_dst (N := 3) rfl ?_); refine box_event ?hg (N := 3) ?hd (cs := #[.int .i64 a0, .slice A l.length c]) (t := 48) ?hr ?_; (case hd => rfl); (case hg => rfl); (case hr => first | (go_simp; done) | (go_simp; rfl)); intro g0 hg0 w1 hbox hb; have BD1 := Aside0.mk hbox; have HB1 := Aside0.mk hb; have GD := Aside0.mk (show w.heap.size ≤ g0 from Nat.le_of_eq hg0.symm); clear hg0 hbox hb) | ((with_reducible refine gate_dst (N := 6) rfl ?_); refine box_event ?hg (N := 6) ?hd (cs := #[.int .i64 0, .slice none 0 0]) (t := 48) ?hr ?_; (case hd => rfl); (case hg => rfl); (case hr => first | (go_simp; done) | (go_simp; rfl)); intro gr hgr w2 hbox hb; have GR := Aside0.mk (show w.heap.size ≤ gr by rw [hgr]; exact HB1.out.size); have BR2 := Aside0.mk hbox; have GRD := Aside0.mk (show gr ≠ g0 from fun e_ => by have := blk_lt BD1.out; omega); have BD2 := Aside0.mk (blk_below BD1.out hb); have HB2 := Aside0.mk (below_step HB1.out hb); have d20 : w2.cell? ⟨g0, 0, none⟩ = some (.int .i64 a0) := (blk_cell BD2.out 0).trans rfl; have d21 : w2.cell? ⟨g0, 1, none⟩ = some (.slice A l.length c) := (blk_cell BD2.out 1).trans rfl; clear hgr hbox hb))
   rw [ehf]
   clear ehf d20 d21
   have QU2 := Aside0.mk (Kd.R_below HR.out HB2.out)
   have QK2 := Aside0.mk (Kept.of_below HB2.out (fun k_ => (Value.slice A l.length c).ownBlock = some k_))
   have QB2 := Aside0.mk (below_then HB.out HB.out.size HB2.out)
   have QS2 := Aside0.mk (Ap.Stays.refl (d := k56) (e := 56) (base := w0.heap.size) (v := .slice A l.length c) (xs := l) HB2.out)
   have VG2 : Aside0 (∀ k_, (Value.slice A l.length c).ownBlock = some k_ → (Value.slice A l.length c).ownBlock = some k_ ∨ w.heap.size ≤ k_) := ⟨fun _ hk => .inl hk⟩
   clear HB2 HB1 BD1
   refine start_ (n := 13) (S := fun w' => True) (ds := []) (Pt.bm 13 0) (by kernel_rfl) rfl rfl trivial (fun hHeld => ?_)
   refine with_tabW spec_l8Rows.tab4 spec_l8Rows.bits4 (fun HT_ HW_ => ?_)
   have n0_ := Aside0.mk (blk_drew BD2.out)
   have n1_ := Aside0.mk (blk_drew BR2.out)
   have n3_ := Aside0.mk (Kd.R_drew QU2.out)
   have n4_ := Aside0.mk QK2.out.drew
   have n5_ := Aside0.mk (below_drew QB2.out)
   have n6_ := Aside0.mk (QS2.out.below (below_drew (Below.refl _ _)))
   have n7_ := n3_
   clear BD2 BR2 QU2 QK2 QB2 QS2 hHeld
   generalize w2.drew = wS at n0_ n1_ n3_ n4_ n5_ n6_ n7_ ⊢
   refine Pt.pu 1 (some 26) (Pt.bm 13 2) (by kernel_rfl) ?_
   refine Pt.pu 2 (some 27) (Pt.bm 13 6) (by kernel_rfl) ?_
   refine Pt.pu 3 (some 28) (v := .slice A2 vT.length c2) (Pt.bm 13 14) (by kernel_rfl) ?_ (hy := by refine Or.inl ⟨by rfl, ?_⟩; intro w'; first | (go_simp; done) | (go_simp; rfl))
   refine Pt.pu 4 (some 29) (Pt.bm 13 30) (by kernel_rfl) ?_
   refine Pt.pu 5 (some 30) (Pt.bm 13 62) (by kernel_rfl) ?_
   refine inv_at [0, 6, 7, 8, 9, 10, 11, 12] (fun a0_ b_ a' w' => ∃ (vn : Value) (gb : Nat) (m10 m11 m12 m14 : Value), a' = putSel a0_ b_ [(0, 25, .agg #[.int .i64 a0, .slice A l.length c]), (6, 31, m10), (7, 24, m11), (8, 32, m12), (9, 33, .int .i64 lo), (10, 9, m14), (12, 10, .int .i64 lo)] ∧ w'.heap[g0]? = some (.cells #[.int .i64 a0, .slice A l.length c] 48 (0, 0)) ∧ w'.heap[gr]? = some (.cells #[.int .i64 0, .slice none 0 0] 48 (0, 0)) ∧ True ∧ Kd.R k56 56 w' w0.heap.size (fun k_ => (Value.slice A l.length c).ownBlock = some k_) (.slice A l.length c) l ∧ Kept w w' (fun k_ => (Value.slice A l.length c).ownBlock = some k_) ∧ Below w0.heap.size w0 w' ∧ (b_ 6 = false → Kd.R k56 56 w' w0.heap.size (fun k_ => (Value.slice A l.length c : Value).ownBlock = some k_) (Value.slice A l.length c) l ∧ Ap.Stays k56 56 w0.heap.size w (.slice A l.length c) l w' (Value.slice A l.length c) l) ∧ (b_ 6 = true → Kd.R k56 56 w' w0.heap.size (fun k_ => (Value.slice A l.length c).ownBlock = some k_ ∨ w.heap.size ≤ k_) vn l1 ∧ Ap.Stays k56 56 w0.heap.size w (.slice A l.length c) l w' vn l1) ∧ (b_ 10 = true → w.heap.size ≤ gb ∧ g0 ≠ gb ∧ gr ≠ gb) ∧ (b_ 10 = true → b_ 11 = false → w'.heap[gb]? = some (.cells #[.int .i64 0, .slice none 0 0] 48 (0, 0))) ∧ (b_ 11 = true → w'.heap[gb]? = some (.cells #[.int .i64 n1, vn] 48 (0, 0))) ∧ (b_ 6 = true → m10 = .tuple #[.agg #[.int .i64 n1, vn], .int .i64 lo]) ∧ (b_ 7 = true → m11 = .tuple #[.agg #[.int .i64 n1, vn], .int .i64 lo]) ∧ (b_ 8 = true → m12 = .agg #[.int .i64 n1, vn]) ∧ (b_ 10 = true → m14 = .pointer (some ⟨gb, 0, none⟩))) HT_.out HW_.out (by kernel_rfl) (by kernel_rfl) ?_ ?_ ?_
   ·exact ⟨.bool false, 0, .bool false, .bool false, .bool false, .bool false, by simp only [putSel, Bool.false_eq_true, if_false], n0_.out, n1_.out, trivial, n3_.out, n4_.out, n5_.out, fun _ => ⟨n7_.out, n6_.out⟩, fun h_ => absurd h_ (by decide), fun h_ => absurd h_ (by decide), fun h_ => absurd h_ (by decide), fun h_ => absurd h_ (by decide), fun h_ => absurd h_ (by decide), fun h_ => absurd h_ (by decide), fun h_ => absurd h_ (by decide), fun h_ => absurd h_ (by decide)⟩
   ·clear n0_ n1_ n3_ n4_ n5_ n6_ n7_
    refine steps_cons ?_ ?_
    ·rintro b_ a' w' ⟨vn, gb, m10, m11, m12, m14, ha, Q_D, Q_Z, Q_G, Q_U, Q_K, Q_B, Q_V, Q_N, Q_g, Q_gz, Q_gf, E_10, E_11, E_12, E_14⟩ hb_ hon hoff
     refine ⟨_, rfl, fun K hK => ?_⟩
     have e3 : a'.tmps[3]? = some (.pointer (some ⟨g0, 0, none⟩)) := by rw [ha]; exact (putSel_off rfl).trans rfl
     replace ha := Aside0.mk ha
     have hc0_ : w'.cell? ⟨g0, 0, none⟩ = some (.int .i64 a0) := (blk_cell Q_D 0).trans rfl
     have hc1_ : w'.cell? ⟨g0, 1, none⟩ = some (.slice A l.length c) := (blk_cell Q_D 1).trans rfl
     refine value_ (w1 := w') (v := .agg #[.int .i64 a0, .slice A l.length c]) (by rfl) rfl ?_ ?_
     ·go_simp
      (try simp only [i64_w])
      try rfl
     exact hK.out _ _ ⟨vn, gb, m10, m11, m12, m14, (by rw [ha.out]; exact putSel_upk 0 hb_ rfl rfl rfl), Q_D, Q_Z, Q_G, Q_U, Q_K, Q_B, Q_V, Q_N, Q_g, Q_gz, Q_gf, E_10, E_11, E_12, E_14⟩
    refine steps_cons ?_ ?_
    ·rintro b_ a' w' ⟨vn, gb, m10, m11, m12, m14, ha, Q_D, Q_Z, Q_G, Q_U, Q_K, Q_B, Q_V, Q_N, Q_g, Q_gz, Q_gf, E_10, E_11, E_12, E_14⟩ hb_ hon hoff
     refine ⟨_, rfl, fun K hK => ?_⟩
     have e25 : a'.tmps[25]? = some (.agg #[.int .i64 a0, .slice A l.length c]) := by rw [ha]; exact putSel_on (e := (0, 25, .agg #[.int .i64 a0, .slice A l.length c])) 0 rfl rfl (hon 0 (by kernel_rfl)) rfl
     have e28 : a'.tmps[28]? = some (.slice A2 vT.length c2) := by rw [ha]; exact (putSel_off rfl).trans rfl
     have e30 : a'.tmps[30]? = some (.int .i64 (wrap64 (v + 1))) := by rw [ha]; exact (putSel_off rfl).trans rfl
     replace ha := Aside0.mk ha
     refine goes_ Try.func126 (by kernel_rfl) rfl #[.agg #[.int .i64 a0, .slice A l.length c], .slice A2 vT.length c2, .int .i64 (wrap64 (v + 1))] (by rfl) rfl rfl (by first | (simp only [List.map_toArray, List.map_cons, List.map_nil, Act.eval, Array.getD_eq_getD_getElem?, Option.getD_some, e25, e28, e30]; done) | (simp only [List.map_toArray, List.map_cons, List.map_nil, Act.eval, Array.getD_eq_getD_getElem?, Option.getD_some, e25, e28, e30]; rfl)) ?_
     have QV_ := Q_V hb_
     with_reducible refine (IH.out a0 (Value.slice A l.length c) l A2 c2 vT (wrap64 (v + 1)) n1 l1 lo w0 _ Q_B QV_.1 (fun W_ hk_ => HVT.out W_ (Q_K.then_ hk_ VG2.out)) HCT.out P1.out).mono ?_
     rintro e w9 ⟨vN, rfl, q1_, q2_, q3_, q4_⟩
     exact ⟨_, rfl, hK.out _ _ ⟨vN, gb, .tuple #[.agg #[.int .i64 n1, vN], .int .i64 lo], m11, m12, m14, (by rw [ha.out]; exact putSel_upk 1 hb_ rfl rfl rfl), blk_kept Q_D q3_ (spec_l8Rows.own_ne QV_.1 Q_D), blk_kept Q_Z q3_ (spec_l8Rows.own_ne QV_.1 Q_Z), trivial, (q4_ _ _ _ Q_U (QV_.2 _ _ _ HR.out (Ap.Pre.refl HR.out)).2).1, Q_K.then_ q3_ VG2.out, q2_, fun h_ => absurd ((up_self b_ 6).symm.trans h_) (by decide), fun _ => ⟨Kd.R_mono q1_ (fun k_ hk => hk.elim (VG2.out k_) (fun h_ => .inr (Nat.le_trans Q_K.1 h_))), QV_.2.trans q4_⟩, Q_g, fun h1 h2 => blk_kept (Q_gz h1 h2) q3_ (spec_l8Rows.own_ne QV_.1 (Q_gz h1 h2)), fun h_ => absurd ((hoff 11 (by kernel_rfl)).symm.trans h_) (by decide), fun _ => rfl, fun h_ => absurd ((hoff 7 (by kernel_rfl)).symm.trans h_) (by decide), fun h_ => absurd ((hoff 8 (by kernel_rfl)).symm.trans h_) (by decide), E_14⟩⟩
    refine steps_cons ?_ ?_
    ·rintro b_ a' w' ⟨vn, gb, m10, m11, m12, m14, ha, Q_D, Q_Z, Q_G, Q_U, Q_K, Q_B, Q_V, Q_N, Q_g, Q_gz, Q_gf, E_10, E_11, E_12, E_14⟩ hb_ hon hoff
     refine ⟨_, rfl, fun K hK => ?_⟩
     obtain rfl := E_10 (hon 6 (by kernel_rfl))
     have e31 : a'.tmps[31]? = some (.tuple #[.agg #[.int .i64 n1, vn], .int .i64 lo]) := by rw [ha]; exact putSel_on (e := (6, 31, .tuple #[.agg #[.int .i64 n1, vn], .int .i64 lo])) 1 rfl rfl (hon 6 (by kernel_rfl)) rfl
     replace ha := Aside0.mk ha
     refine value_ (w1 := w') (v := .tuple #[.agg #[.int .i64 n1, vn], .int .i64 lo]) (by rfl) rfl ?_ ?_
     ·go_simp
      (try simp only [i64_w])
      try rfl
     exact hK.out _ _ ⟨vn, gb, _, .tuple #[.agg #[.int .i64 n1, vn], .int .i64 lo], m12, m14, (by rw [ha.out]; exact putSel_upk 2 hb_ rfl rfl rfl), Q_D, Q_Z, Q_G, Q_U, Q_K, Q_B, Q_V, Q_N, Q_g, Q_gz, Q_gf, fun _ => rfl, fun _ => rfl, E_12, E_14⟩
    refine steps_cons ?_ ?_
    ·rintro b_ a' w' ⟨vn, gb, m10, m11, m12, m14, ha, Q_D, Q_Z, Q_G, Q_U, Q_K, Q_B, Q_V, Q_N, Q_g, Q_gz, Q_gf, E_10, E_11, E_12, E_14⟩ hb_ hon hoff
     refine ⟨_, rfl, fun K hK => ?_⟩
     obtain rfl := E_11 (hon 7 (by kernel_rfl))
     have e24 : a'.tmps[24]? = some (.tuple #[.agg #[.int .i64 n1, vn], .int .i64 lo]) := by rw [ha]; exact putSel_on (e := (7, 24, .tuple #[.agg #[.int .i64 n1, vn], .int .i64 lo])) 2 rfl rfl (hon 7 (by kernel_rfl)) rfl
     replace ha := Aside0.mk ha
     refine value_ (w1 := w') (v := .agg #[.int .i64 n1, vn]) (by rfl) rfl ?_ ?_
     ·go_simp
      (try simp only [i64_w])
      try rfl
     exact hK.out _ _ ⟨vn, gb, m10, _, .agg #[.int .i64 n1, vn], m14, (by rw [ha.out]; exact putSel_upk 3 hb_ rfl rfl rfl), Q_D, Q_Z, Q_G, Q_U, Q_K, Q_B, Q_V, Q_N, Q_g, Q_gz, Q_gf, E_10, fun _ => rfl, fun _ => rfl, E_14⟩
    refine steps_cons ?_ ?_
    ·rintro b_ a' w' ⟨vn, gb, m10, m11, m12, m14, ha, Q_D, Q_Z, Q_G, Q_U, Q_K, Q_B, Q_V, Q_N, Q_g, Q_gz, Q_gf, E_10, E_11, E_12, E_14⟩ hb_ hon hoff
     refine ⟨_, rfl, fun K hK => ?_⟩
     obtain rfl := E_11 (hon 7 (by kernel_rfl))
     have e24 : a'.tmps[24]? = some (.tuple #[.agg #[.int .i64 n1, vn], .int .i64 lo]) := by rw [ha]; exact putSel_on (e := (7, 24, .tuple #[.agg #[.int .i64 n1, vn], .int .i64 lo])) 2 rfl rfl (hon 7 (by kernel_rfl)) rfl
     replace ha := Aside0.mk ha
     refine value_ (w1 := w') (v := .int .i64 lo) (by rfl) rfl ?_ ?_
     ·go_simp
      (try simp only [i64_w])
      try rfl
     exact hK.out _ _ ⟨vn, gb, m10, _, m12, m14, (by rw [ha.out]; exact putSel_upk 4 hb_ rfl rfl rfl), Q_D, Q_Z, Q_G, Q_U, Q_K, Q_B, Q_V, Q_N, Q_g, Q_gz, Q_gf, E_10, fun _ => rfl, E_12, E_14⟩
    refine steps_cons ?_ ?_
    ·rintro b_ a' w' ⟨vn, gb, m10, m11, m12, m14, ha, Q_D, Q_Z, Q_G, Q_U, Q_K, Q_B, Q_V, Q_N, Q_g, Q_gz, Q_gf, E_10, E_11, E_12, E_14⟩ hb_ hon hoff
     refine ⟨_, rfl, fun K hK => ?_⟩
     replace ha := Aside0.mk ha
     refine value_ (w1 := w'.alloc (.cells #[.int .i64 0, .slice none 0 0] 48 (0, 0))) (v := .pointer (some ⟨w'.heap.size, 0, none⟩)) (by rfl) rfl ?_ ?_
     ·first | (go_simp; done) | (go_simp; rfl)
     have hb := below_alloc (Below.refl w'.heap.size w') (.cells #[.int .i64 0, .slice none 0 0] 48 (0, 0))
     exact hK.out _ _ ⟨vn, w'.heap.size, m10, m11, m12, .pointer (some ⟨w'.heap.size, 0, none⟩), (by rw [ha.out]; exact putSel_upk 5 hb_ rfl rfl rfl), blk_below Q_D hb, blk_below Q_Z hb, trivial, Kd.R_below Q_U hb, Q_K.below hb, below_then Q_B Q_B.size hb, fun h_ => ⟨Kd.R_below (Q_V h_).1 hb, (Q_V h_).2.below hb⟩, fun h_ => ⟨Kd.R_below (Q_N h_).1 hb, (Q_N h_).2.below hb⟩, fun _ => ⟨Q_K.1, Nat.ne_of_lt (blk_lt Q_D), Nat.ne_of_lt (blk_lt Q_Z)⟩, fun _ _ => blk_new _ _, fun h_ => absurd ((hoff 11 (by kernel_rfl)).symm.trans h_) (by decide), E_10, E_11, E_12, fun _ => rfl⟩
    refine steps_cons ?_ ?_
    ·rintro b_ a' w' ⟨vn, gb, m10, m11, m12, m14, ha, Q_D, Q_Z, Q_G, Q_U, Q_K, Q_B, Q_V, Q_N, Q_g, Q_gz, Q_gf, E_10, E_11, E_12, E_14⟩ hb_ hon hoff
     refine ⟨_, rfl, fun K hK => ?_⟩
     obtain rfl := E_12 (hon 8 (by kernel_rfl))
     obtain rfl := E_14 (hon 10 (by kernel_rfl))
     have G_ := Q_g (hon 10 (by kernel_rfl))
     have Z_ := Q_gz (hon 10 (by kernel_rfl)) hb_
     have h10 := hon 6 (by kernel_rfl)
     obtain ⟨A9, c9, rfl⟩ := Kd.R_slice (Q_N h10).1
     have e9 : a'.tmps[9]? = some (.pointer (some ⟨gb, 0, none⟩)) := by rw [ha]; exact putSel_on (e := (10, 9, .pointer (some ⟨gb, 0, none⟩))) 5 rfl rfl (hon 10 (by kernel_rfl)) rfl
     have e32 : a'.tmps[32]? = some (.agg #[.int .i64 n1, .slice A9 l1.length c9]) := by rw [ha]; exact putSel_on (e := (8, 32, .agg #[.int .i64 n1, .slice A9 l1.length c9])) 3 rfl rfl (hon 8 (by kernel_rfl)) rfl
     replace ha := Aside0.mk ha
     have hs0 : w'.cell? ⟨gb, 0, none⟩ = some (.int .i64 0) := (blk_cell Z_ 0).trans rfl
     have hs1 : w'.cell? ⟨gb, 1, none⟩ = some (.slice none 0 0) := (blk_cell Z_ 1).trans rfl
     have hf0 := blk_frozen Z_ 0
     have hf1 := blk_frozen Z_ 1
     have GA := Aside0.mk G_
     have ZA := Aside0.mk Z_
     have H10 := Aside0.mk h10
     replace Q_D := Aside0.mk Q_D
     replace Q_Z := Aside0.mk Q_Z
     replace Q_G := Aside0.mk Q_G
     replace Q_U := Aside0.mk Q_U
     replace Q_K := Aside0.mk Q_K
     replace Q_B := Aside0.mk Q_B
     replace Q_V := Aside0.mk Q_V
     replace Q_N := Aside0.mk Q_N
     clear G_ Z_ h10
     refine skip_ (w1 := ?_) (by rfl) rfl ?_ ?_
     rotate_left
     ·go_simp
      rfl
     exact hK.out _ _ ⟨_, gb, m10, m11, _, _, (by rw [ha.out]; exact putSel_none (v := undef) rfl), blk_far (p := ⟨gb, 1, none⟩) (blk_far (p := ⟨gb, 0, none⟩) Q_D.out GA.out.2.1 _) GA.out.2.1 _, blk_far (p := ⟨gb, 1, none⟩) (blk_far (p := ⟨gb, 0, none⟩) Q_Z.out GA.out.2.2 _) GA.out.2.2 _, trivial, Kd.R_set (Kd.R_set Q_U.out ZA.out (by decide) 0 _) (blk_put ZA.out 0 _ rfl) (by decide) 1 _, (Q_K.out.setCell (p := ⟨gb, 0, none⟩) (.inr GA.out.1) _).setCell (p := ⟨gb, 1, none⟩) (.inr GA.out.1) _, (Q_B.out.setCell (p := ⟨gb, 0, none⟩) (Nat.le_trans HB.out.size GA.out.1) _).setCell (p := ⟨gb, 1, none⟩) (Nat.le_trans HB.out.size GA.out.1) _, fun h_ => absurd (H10.out.symm.trans h_) (by decide), fun h_ => ⟨Kd.R_set (Kd.R_set (Q_N.out h_).1 ZA.out (by decide) 0 _) (blk_put ZA.out 0 _ rfl) (by decide) 1 _, spec_l8Rows.stays_set (spec_l8Rows.stays_set (Q_N.out h_).2 ZA.out) (blk_put ZA.out 0 _ rfl)⟩, Q_g, fun _ h_ => absurd ((up_self b_ 11).symm.trans h_) (by decide), fun _ => blk_put (blk_put ZA.out 0 _ rfl) 1 _ rfl, E_10, E_11, fun _ => rfl, fun _ => rfl⟩
    refine steps_cons ?_ ?_
    ·rintro b_ a' w' ⟨vn, gb, m10, m11, m12, m14, ha, Q_D, Q_Z, Q_G, Q_U, Q_K, Q_B, Q_V, Q_N, Q_g, Q_gz, Q_gf, E_10, E_11, E_12, E_14⟩ hb_ hon hoff
     refine ⟨_, rfl, fun K hK => ?_⟩
     have e33 : a'.tmps[33]? = some (.int .i64 lo) := by rw [ha]; exact putSel_on (e := (9, 33, .int .i64 lo)) 4 rfl rfl (hon 9 (by kernel_rfl)) rfl
     replace ha := Aside0.mk ha
     refine value_ (w1 := w') (v := .int .i64 lo) (by rfl) rfl ?_ ?_
     ·go_simp
      (try simp only [i64_w])
      try rfl
     exact hK.out _ _ ⟨vn, gb, m10, m11, m12, m14, (by rw [ha.out]; exact putSel_upk 6 hb_ rfl rfl rfl), Q_D, Q_Z, Q_G, Q_U, Q_K, Q_B, Q_V, Q_N, Q_g, Q_gz, Q_gf, E_10, E_11, E_12, E_14⟩
    exact steps_nil
   rintro b_ a' w8 hall ⟨vn, g1, m10, m11, m12, m14, ha, Q_D, Q_Z, Q_G, Q_U, Q_K, Q_B, Q_V, Q_N, Q_g, Q_gz, Q_gf, E_10, E_11, E_12, E_14⟩
   have hb0_ := hall 0 (by kernel_rfl)
   have hb6_ := hall 6 (by kernel_rfl)
   have hb7_ := hall 7 (by kernel_rfl)
   have hb8_ := hall 8 (by kernel_rfl)
   have hb9_ := hall 9 (by kernel_rfl)
   have hb10_ := hall 10 (by kernel_rfl)
   have hb11_ := hall 11 (by kernel_rfl)
   have hb12_ := hall 12 (by kernel_rfl)
   obtain rfl := E_10 hb6_
   obtain rfl := E_11 hb7_
   obtain rfl := E_12 hb8_
   obtain rfl := E_14 hb10_
   obtain ⟨A1, c1, rfl⟩ := Kd.R_slice (Q_N hb6_).1
   subst ha
   simp only [putSel, hb0_, hb6_, hb7_, hb8_, hb9_, hb10_, hb11_, hb12_, if_true, Act.put, List.setIfInBounds_toArray, List.set_cons_zero, List.set_cons_succ]
   have BD8 := Aside0.mk Q_D
   have BR8 := Aside0.mk Q_Z
   have HU8 := Aside0.mk Q_U
   have HK8 := Aside0.mk Q_K
   have HB8 := Aside0.mk Q_B
   have HN8 := Aside0.mk (Q_N hb6_).1
   have HS8 := Aside0.mk (Q_N hb6_).2
   have GG8 := Aside0.mk (Q_g hb10_)
   have BG8 := Aside0.mk (Q_gf hb11_)
   clear hall hb0_ hb6_ hb7_ hb8_ hb9_ hb10_ hb11_ hb12_ Q_D Q_Z Q_G Q_U Q_K Q_B Q_V Q_N Q_g Q_gz Q_gf E_10 E_11 E_12 E_14 n0_ n1_ n3_ n4_ n5_ n6_ n7_ HT_ HW_
   have H1 := H.out
   by_cases c5 : lo < 0
   ·rw [if_pos c5] at H1
    simp only [Option.some.injEq, Prod.mk.injEq] at H1
    obtain ⟨rfl, rfl, rfl⟩ := H1
    have e5 : decide (lo < 0) = true := decide_eq_true c5
    clear c5 H
    have d80 : w8.cell? ⟨g0, 0, none⟩ = some (.int .i64 a0) := (blk_cell BD8.out 0).trans rfl
    have d81 : w8.cell? ⟨g0, 1, none⟩ = some (.slice A l.length c) := (blk_cell BD8.out 1).trans rfl
    have r80 : w8.cell? ⟨gr, 0, none⟩ = some (.int .i64 0) := (blk_cell BR8.out 0).trans rfl
    have r81 : w8.cell? ⟨gr, 1, none⟩ = some (.slice none 0 0) := (blk_cell BR8.out 1).trans rfl
    have q80 := blk_frozen BR8.out 0
    have q81 := blk_frozen BR8.out 1
    go_wp2
    refine bodyPost_ret (results_ct rfl _ _ gr 48 #[.int .i64 a0, .slice A l.length c] (0, 0) _ rfl (blk_put (blk_put BR8.out 0 _ rfl) 1 _ rfl) Try.underlying48 rfl (by kernel_rfl)) rfl ?_
    exact ⟨_, rfl, Kd.R_mono (Kd.R_set (Kd.R_set HU8.out BR8.out (by decide) 0 _) (blk_put BR8.out 0 _ rfl) (by decide) 1 _) (fun _ hk => .inl hk), (HB8.out.setCell (p := ⟨gr, 0, none⟩) (Nat.le_trans HB.out.size GR.out) _).setCell (p := ⟨gr, 1, none⟩) (Nat.le_trans HB.out.size GR.out) _, (HK8.out.setCell (p := ⟨gr, 0, none⟩) (.inr GR.out) _).setCell (p := ⟨gr, 1, none⟩) (.inr GR.out) _, fun ok0 u0 xs0 h0 hp => ⟨Kd.R_set (Kd.R_set (HS8.out ok0 u0 xs0 h0 hp).1 BR8.out (by decide) 0 _) (blk_put BR8.out 0 _ rfl) (by decide) 1 _, hp⟩⟩
   rw [if_neg c5] at H1
   have e5 : decide (lo < 0) = false := decide_eq_false c5
   obtain ⟨⟨n2, l2, hi⟩, hp2, h⟩ := Option.bind_eq_some_iff.mp H1
   simp only at h hp2
   have P2 := Aside0.mk hp2
   clear H
   have H := Aside0.mk h
   clear H1 hp2 h c5
   have QU8 := HU8
   have QK8 := HK8
   have QB8 := HB8
   have QS8 := HS8
   have QV8 := Aside0.mk (Kd.R_mono (Kd.R_tight k56_E HN8.out) (fun _ hk => hk.symm))
   have VG8 : Aside0 (∀ k_, (Value.slice A1 l1.length c1).ownBlock = some k_ → (Value.slice A l.length c).ownBlock = some k_ ∨ w.heap.size ≤ k_) := ⟨fun k_ hk => HN8.out.1 k_ hk⟩
   clear HU8 HK8 HB8 HS8
   go_upto_region 7 with fail
   refine start_ (n := 13) (S := fun w' => True) (ds := []) (Pt.bm 13 0) (by kernel_rfl) rfl rfl trivial (fun hHeld => ?_)
   refine with_tabW spec_l8Rows.tab7 spec_l8Rows.bits7 (fun HT_ HW_ => ?_)
   have n0_ := Aside0.mk (blk_drew BD8.out)
   have n1_ := Aside0.mk (blk_drew BR8.out)
   have n2_ := Aside0.mk (blk_drew BG8.out)
   have n3_ := Aside0.mk (Kd.R_drew QU8.out)
   have n4_ := Aside0.mk QK8.out.drew
   have n5_ := Aside0.mk (below_drew QB8.out)
   have n6_ := Aside0.mk (QS8.out.below (below_drew (Below.refl _ _)))
   have n7_ := Aside0.mk (Kd.R_drew QV8.out)
   clear BD8 BR8 QU8 QK8 QB8 QS8 hHeld BG8 QV8
   generalize w8.drew = wS at n0_ n1_ n2_ n3_ n4_ n5_ n6_ n7_ ⊢
   refine Pt.pu 1 (some 39) (Pt.bm 13 2) (by kernel_rfl) ?_
   refine Pt.pu 2 (some 40) (Pt.bm 13 6) (by kernel_rfl) ?_
   refine Pt.pu 3 (some 41) (v := .slice AD vD.length (c2 - hf)) (Pt.bm 13 14) (by kernel_rfl) ?_ (hy := by refine Or.inl ⟨by rfl, ?_⟩; intro w'; first | (go_simp; done) | (go_simp; rfl))
   refine Pt.pu 4 (some 42) (Pt.bm 13 30) (by kernel_rfl) ?_
   refine Pt.pu 5 (some 43) (Pt.bm 13 62) (by kernel_rfl) ?_
   refine inv_at [0, 6, 7, 8, 9, 10, 11, 12] (fun a0_ b_ a' w' => ∃ (vn : Value) (gb : Nat) (m10 m11 m12 m14 : Value), a' = putSel a0_ b_ [(0, 38, .agg #[.int .i64 n1, .slice A1 l1.length c1]), (6, 44, m10), (7, 37, m11), (8, 45, m12), (9, 46, .int .i64 hi), (10, 11, m14), (12, 12, .int .i64 hi)] ∧ w'.heap[g0]? = some (.cells #[.int .i64 a0, .slice A l.length c] 48 (0, 0)) ∧ w'.heap[gr]? = some (.cells #[.int .i64 0, .slice none 0 0] 48 (0, 0)) ∧ w'.heap[g1]? = some (.cells #[.int .i64 n1, .slice A1 l1.length c1] 48 (0, 0)) ∧ Kd.R k56 56 w' w0.heap.size (fun k_ => (Value.slice A l.length c).ownBlock = some k_) (.slice A l.length c) l ∧ Kept w w' (fun k_ => (Value.slice A l.length c).ownBlock = some k_) ∧ Below w0.heap.size w0 w' ∧ (b_ 6 = false → Kd.R k56 56 w' w0.heap.size (fun k_ => (Value.slice A1 l1.length c1 : Value).ownBlock = some k_) (Value.slice A1 l1.length c1) l1 ∧ Ap.Stays k56 56 w0.heap.size w (.slice A l.length c) l w' (Value.slice A1 l1.length c1) l1) ∧ (b_ 6 = true → Kd.R k56 56 w' w0.heap.size (fun k_ => (Value.slice A l.length c).ownBlock = some k_ ∨ w.heap.size ≤ k_) vn l2 ∧ Ap.Stays k56 56 w0.heap.size w (.slice A l.length c) l w' vn l2) ∧ (b_ 10 = true → w.heap.size ≤ gb ∧ g0 ≠ gb ∧ gr ≠ gb ∧ g1 ≠ gb) ∧ (b_ 10 = true → b_ 11 = false → w'.heap[gb]? = some (.cells #[.int .i64 0, .slice none 0 0] 48 (0, 0))) ∧ (b_ 11 = true → w'.heap[gb]? = some (.cells #[.int .i64 n2, vn] 48 (0, 0))) ∧ (b_ 6 = true → m10 = .tuple #[.agg #[.int .i64 n2, vn], .int .i64 hi]) ∧ (b_ 7 = true → m11 = .tuple #[.agg #[.int .i64 n2, vn], .int .i64 hi]) ∧ (b_ 8 = true → m12 = .agg #[.int .i64 n2, vn]) ∧ (b_ 10 = true → m14 = .pointer (some ⟨gb, 0, none⟩))) HT_.out HW_.out (by kernel_rfl) (by kernel_rfl) ?_ ?_ ?_
   ·exact ⟨.bool false, 0, .bool false, .bool false, .bool false, .bool false, by simp only [putSel, Bool.false_eq_true, if_false], n0_.out, n1_.out, n2_.out, n3_.out, n4_.out, n5_.out, fun _ => ⟨n7_.out, n6_.out⟩, fun h_ => absurd h_ (by decide), fun h_ => absurd h_ (by decide), fun h_ => absurd h_ (by decide), fun h_ => absurd h_ (by decide), fun h_ => absurd h_ (by decide), fun h_ => absurd h_ (by decide), fun h_ => absurd h_ (by decide), fun h_ => absurd h_ (by decide)⟩
   ·clear n0_ n1_ n2_ n3_ n4_ n5_ n6_ n7_
    refine steps_cons ?_ ?_
    ·rintro b_ a' w' ⟨vn, gb, m10, m11, m12, m14, ha, Q_D, Q_Z, Q_G, Q_U, Q_K, Q_B, Q_V, Q_N, Q_g, Q_gz, Q_gf, E_10, E_11, E_12, E_14⟩ hb_ hon hoff
     refine ⟨_, rfl, fun K hK => ?_⟩
     have e9 : a'.tmps[9]? = some (.pointer (some ⟨g1, 0, none⟩)) := by rw [ha]; exact (putSel_off rfl).trans rfl
     replace ha := Aside0.mk ha
     have hc0_ : w'.cell? ⟨g1, 0, none⟩ = some (.int .i64 n1) := (blk_cell Q_G 0).trans rfl
     have hc1_ : w'.cell? ⟨g1, 1, none⟩ = some (.slice A1 l1.length c1) := (blk_cell Q_G 1).trans rfl
     refine value_ (w1 := w') (v := .agg #[.int .i64 n1, .slice A1 l1.length c1]) (by rfl) rfl ?_ ?_
     ·go_simp
      (try simp only [i64_w])
      try rfl
     exact hK.out _ _ ⟨vn, gb, m10, m11, m12, m14, (by rw [ha.out]; exact putSel_upk 0 hb_ rfl rfl rfl), Q_D, Q_Z, Q_G, Q_U, Q_K, Q_B, Q_V, Q_N, Q_g, Q_gz, Q_gf, E_10, E_11, E_12, E_14⟩
    refine steps_cons ?_ ?_
    ·rintro b_ a' w' ⟨vn, gb, m10, m11, m12, m14, ha, Q_D, Q_Z, Q_G, Q_U, Q_K, Q_B, Q_V, Q_N, Q_g, Q_gz, Q_gf, E_10, E_11, E_12, E_14⟩ hb_ hon hoff
     refine ⟨_, rfl, fun K hK => ?_⟩
     have e38 : a'.tmps[38]? = some (.agg #[.int .i64 n1, .slice A1 l1.length c1]) := by rw [ha]; exact putSel_on (e := (0, 38, .agg #[.int .i64 n1, .slice A1 l1.length c1])) 0 rfl rfl (hon 0 (by kernel_rfl)) rfl
     have e41 : a'.tmps[41]? = some (.slice AD vD.length (c2 - hf)) := by rw [ha]; exact (putSel_off rfl).trans rfl
     have e43 : a'.tmps[43]? = some (.int .i64 (wrap64 (v + 1))) := by rw [ha]; exact (putSel_off rfl).trans rfl
     replace ha := Aside0.mk ha
     refine goes_ Try.func126 (by kernel_rfl) rfl #[.agg #[.int .i64 n1, .slice A1 l1.length c1], .slice AD vD.length (c2 - hf), .int .i64 (wrap64 (v + 1))] (by rfl) rfl rfl (by first | (simp only [List.map_toArray, List.map_cons, List.map_nil, Act.eval, Array.getD_eq_getD_getElem?, Option.getD_some, e38, e41, e43]; done) | (simp only [List.map_toArray, List.map_cons, List.map_nil, Act.eval, Array.getD_eq_getD_getElem?, Option.getD_some, e38, e41, e43]; rfl)) ?_
     have QV_ := Q_V hb_
     with_reducible refine (IH.out n1 (Value.slice A1 l1.length c1) l1 AD (c2 - hf) vD (wrap64 (v + 1)) n2 l2 hi w0 _ Q_B QV_.1 (fun W_ hk_ => HVD.out W_ (Q_K.then_ hk_ VG8.out)) HCD.out P2.out).mono ?_
     rintro e w9 ⟨vN, rfl, q1_, q2_, q3_, q4_⟩
     exact ⟨_, rfl, hK.out _ _ ⟨vN, gb, .tuple #[.agg #[.int .i64 n2, vN], .int .i64 hi], m11, m12, m14, (by rw [ha.out]; exact putSel_upk 1 hb_ rfl rfl rfl), blk_kept Q_D q3_ (spec_l8Rows.own_ne QV_.1 Q_D), blk_kept Q_Z q3_ (spec_l8Rows.own_ne QV_.1 Q_Z), blk_kept Q_G q3_ (spec_l8Rows.own_ne QV_.1 Q_G), (q4_ _ _ _ Q_U (QV_.2 _ _ _ HR.out (Ap.Pre.refl HR.out)).2).1, Q_K.then_ q3_ VG8.out, q2_, fun h_ => absurd ((up_self b_ 6).symm.trans h_) (by decide), fun _ => ⟨Kd.R_mono q1_ (fun k_ hk => hk.elim (VG8.out k_) (fun h_ => .inr (Nat.le_trans Q_K.1 h_))), QV_.2.trans q4_⟩, Q_g, fun h1 h2 => blk_kept (Q_gz h1 h2) q3_ (spec_l8Rows.own_ne QV_.1 (Q_gz h1 h2)), fun h_ => absurd ((hoff 11 (by kernel_rfl)).symm.trans h_) (by decide), fun _ => rfl, fun h_ => absurd ((hoff 7 (by kernel_rfl)).symm.trans h_) (by decide), fun h_ => absurd ((hoff 8 (by kernel_rfl)).symm.trans h_) (by decide), E_14⟩⟩
    refine steps_cons ?_ ?_
    ·rintro b_ a' w' ⟨vn, gb, m10, m11, m12, m14, ha, Q_D, Q_Z, Q_G, Q_U, Q_K, Q_B, Q_V, Q_N, Q_g, Q_gz, Q_gf, E_10, E_11, E_12, E_14⟩ hb_ hon hoff
     refine ⟨_, rfl, fun K hK => ?_⟩
     obtain rfl := E_10 (hon 6 (by kernel_rfl))
     have e44 : a'.tmps[44]? = some (.tuple #[.agg #[.int .i64 n2, vn], .int .i64 hi]) := by rw [ha]; exact putSel_on (e := (6, 44, .tuple #[.agg #[.int .i64 n2, vn], .int .i64 hi])) 1 rfl rfl (hon 6 (by kernel_rfl)) rfl
     replace ha := Aside0.mk ha
     refine value_ (w1 := w') (v := .tuple #[.agg #[.int .i64 n2, vn], .int .i64 hi]) (by rfl) rfl ?_ ?_
     ·go_simp
      (try simp only [i64_w])
      try rfl
     exact hK.out _ _ ⟨vn, gb, _, .tuple #[.agg #[.int .i64 n2, vn], .int .i64 hi], m12, m14, (by rw [ha.out]; exact putSel_upk 2 hb_ rfl rfl rfl), Q_D, Q_Z, Q_G, Q_U, Q_K, Q_B, Q_V, Q_N, Q_g, Q_gz, Q_gf, fun _ => rfl, fun _ => rfl, E_12, E_14⟩
    refine steps_cons ?_ ?_
    ·rintro b_ a' w' ⟨vn, gb, m10, m11, m12, m14, ha, Q_D, Q_Z, Q_G, Q_U, Q_K, Q_B, Q_V, Q_N, Q_g, Q_gz, Q_gf, E_10, E_11, E_12, E_14⟩ hb_ hon hoff
     refine ⟨_, rfl, fun K hK => ?_⟩
     obtain rfl := E_11 (hon 7 (by kernel_rfl))
     have e37 : a'.tmps[37]? = some (.tuple #[.agg #[.int .i64 n2, vn], .int .i64 hi]) := by rw [ha]; exact putSel_on (e := (7, 37, .tuple #[.agg #[.int .i64 n2, vn], .int .i64 hi])) 2 rfl rfl (hon 7 (by kernel_rfl)) rfl
     replace ha := Aside0.mk ha
     refine value_ (w1 := w') (v := .agg #[.int .i64 n2, vn]) (by rfl) rfl ?_ ?_
     ·go_simp
      (try simp only [i64_w])
      try rfl
     exact hK.out _ _ ⟨vn, gb, m10, _, .agg #[.int .i64 n2, vn], m14, (by rw [ha.out]; exact putSel_upk 3 hb_ rfl rfl rfl), Q_D, Q_Z, Q_G, Q_U, Q_K, Q_B, Q_V, Q_N, Q_g, Q_gz, Q_gf, E_10, fun _ => rfl, fun _ => rfl, E_14⟩
    refine steps_cons ?_ ?_
    ·rintro b_ a' w' ⟨vn, gb, m10, m11, m12, m14, ha, Q_D, Q_Z, Q_G, Q_U, Q_K, Q_B, Q_V, Q_N, Q_g, Q_gz, Q_gf, E_10, E_11, E_12, E_14⟩ hb_ hon hoff
     refine ⟨_, rfl, fun K hK => ?_⟩
     obtain rfl := E_11 (hon 7 (by kernel_rfl))
     have e37 : a'.tmps[37]? = some (.tuple #[.agg #[.int .i64 n2, vn], .int .i64 hi]) := by rw [ha]; exact putSel_on (e := (7, 37, .tuple #[.agg #[.int .i64 n2, vn], .int .i64 hi])) 2 rfl rfl (hon 7 (by kernel_rfl)) rfl
     replace ha := Aside0.mk ha
     refine value_ (w1 := w') (v := .int .i64 hi) (by rfl) rfl ?_ ?_
     ·go_simp
      (try simp only [i64_w])
      try rfl
     exact hK.out _ _ ⟨vn, gb, m10, _, m12, m14, (by rw [ha.out]; exact putSel_upk 4 hb_ rfl rfl rfl), Q_D, Q_Z, Q_G, Q_U, Q_K, Q_B, Q_V, Q_N, Q_g, Q_gz, Q_gf, E_10, fun _ => rfl, E_12, E_14⟩
    refine steps_cons ?_ ?_
    ·rintro b_ a' w' ⟨vn, gb, m10, m11, m12, m14, ha, Q_D, Q_Z, Q_G, Q_U, Q_K, Q_B, Q_V, Q_N, Q_g, Q_gz, Q_gf, E_10, E_11, E_12, E_14⟩ hb_ hon hoff
     refine ⟨_, rfl, fun K hK => ?_⟩
     replace ha := Aside0.mk ha
     refine value_ (w1 := w'.alloc (.cells #[.int .i64 0, .slice none 0 0] 48 (0, 0))) (v := .pointer (some ⟨w'.heap.size, 0, none⟩)) (by rfl) rfl ?_ ?_
     ·first | (go_simp; done) | (go_simp; rfl)
     have hb := below_alloc (Below.refl w'.heap.size w') (.cells #[.int .i64 0, .slice none 0 0] 48 (0, 0))
     exact hK.out _ _ ⟨vn, w'.heap.size, m10, m11, m12, .pointer (some ⟨w'.heap.size, 0, none⟩), (by rw [ha.out]; exact putSel_upk 5 hb_ rfl rfl rfl), blk_below Q_D hb, blk_below Q_Z hb, blk_below Q_G hb, Kd.R_below Q_U hb, Q_K.below hb, below_then Q_B Q_B.size hb, fun h_ => ⟨Kd.R_below (Q_V h_).1 hb, (Q_V h_).2.below hb⟩, fun h_ => ⟨Kd.R_below (Q_N h_).1 hb, (Q_N h_).2.below hb⟩, fun _ => ⟨Q_K.1, Nat.ne_of_lt (blk_lt Q_D), Nat.ne_of_lt (blk_lt Q_Z), Nat.ne_of_lt (blk_lt Q_G)⟩, fun _ _ => blk_new _ _, fun h_ => absurd ((hoff 11 (by kernel_rfl)).symm.trans h_) (by decide), E_10, E_11, E_12, fun _ => rfl⟩
    refine steps_cons ?_ ?_
    ·rintro b_ a' w' ⟨vn, gb, m10, m11, m12, m14, ha, Q_D, Q_Z, Q_G, Q_U, Q_K, Q_B, Q_V, Q_N, Q_g, Q_gz, Q_gf, E_10, E_11, E_12, E_14⟩ hb_ hon hoff
     refine ⟨_, rfl, fun K hK => ?_⟩
     obtain rfl := E_12 (hon 8 (by kernel_rfl))
     obtain rfl := E_14 (hon 10 (by kernel_rfl))
     have G_ := Q_g (hon 10 (by kernel_rfl))
     have Z_ := Q_gz (hon 10 (by kernel_rfl)) hb_
     have h10 := hon 6 (by kernel_rfl)
     obtain ⟨A9, c9, rfl⟩ := Kd.R_slice (Q_N h10).1
     have e11 : a'.tmps[11]? = some (.pointer (some ⟨gb, 0, none⟩)) := by rw [ha]; exact putSel_on (e := (10, 11, .pointer (some ⟨gb, 0, none⟩))) 5 rfl rfl (hon 10 (by kernel_rfl)) rfl
     have e45 : a'.tmps[45]? = some (.agg #[.int .i64 n2, .slice A9 l2.length c9]) := by rw [ha]; exact putSel_on (e := (8, 45, .agg #[.int .i64 n2, .slice A9 l2.length c9])) 3 rfl rfl (hon 8 (by kernel_rfl)) rfl
     replace ha := Aside0.mk ha
     have hs0 : w'.cell? ⟨gb, 0, none⟩ = some (.int .i64 0) := (blk_cell Z_ 0).trans rfl
     have hs1 : w'.cell? ⟨gb, 1, none⟩ = some (.slice none 0 0) := (blk_cell Z_ 1).trans rfl
     have hf0 := blk_frozen Z_ 0
     have hf1 := blk_frozen Z_ 1
     have GA := Aside0.mk G_
     have ZA := Aside0.mk Z_
     have H10 := Aside0.mk h10
     replace Q_D := Aside0.mk Q_D
     replace Q_Z := Aside0.mk Q_Z
     replace Q_G := Aside0.mk Q_G
     replace Q_U := Aside0.mk Q_U
     replace Q_K := Aside0.mk Q_K
     replace Q_B := Aside0.mk Q_B
     replace Q_V := Aside0.mk Q_V
     replace Q_N := Aside0.mk Q_N
     clear G_ Z_ h10
     refine skip_ (w1 := ?_) (by rfl) rfl ?_ ?_
     rotate_left
     ·go_simp
      rfl
     exact hK.out _ _ ⟨_, gb, m10, m11, _, _, (by rw [ha.out]; exact putSel_none (v := undef) rfl), blk_far (p := ⟨gb, 1, none⟩) (blk_far (p := ⟨gb, 0, none⟩) Q_D.out GA.out.2.1 _) GA.out.2.1 _, blk_far (p := ⟨gb, 1, none⟩) (blk_far (p := ⟨gb, 0, none⟩) Q_Z.out GA.out.2.2.1 _) GA.out.2.2.1 _, blk_far (p := ⟨gb, 1, none⟩) (blk_far (p := ⟨gb, 0, none⟩) Q_G.out GA.out.2.2.2 _) GA.out.2.2.2 _, Kd.R_set (Kd.R_set Q_U.out ZA.out (by decide) 0 _) (blk_put ZA.out 0 _ rfl) (by decide) 1 _, (Q_K.out.setCell (p := ⟨gb, 0, none⟩) (.inr GA.out.1) _).setCell (p := ⟨gb, 1, none⟩) (.inr GA.out.1) _, (Q_B.out.setCell (p := ⟨gb, 0, none⟩) (Nat.le_trans HB.out.size GA.out.1) _).setCell (p := ⟨gb, 1, none⟩) (Nat.le_trans HB.out.size GA.out.1) _, fun h_ => absurd (H10.out.symm.trans h_) (by decide), fun h_ => ⟨Kd.R_set (Kd.R_set (Q_N.out h_).1 ZA.out (by decide) 0 _) (blk_put ZA.out 0 _ rfl) (by decide) 1 _, spec_l8Rows.stays_set (spec_l8Rows.stays_set (Q_N.out h_).2 ZA.out) (blk_put ZA.out 0 _ rfl)⟩, Q_g, fun _ h_ => absurd ((up_self b_ 11).symm.trans h_) (by decide), fun _ => blk_put (blk_put ZA.out 0 _ rfl) 1 _ rfl, E_10, E_11, fun _ => rfl, fun _ => rfl⟩
    refine steps_cons ?_ ?_
    ·rintro b_ a' w' ⟨vn, gb, m10, m11, m12, m14, ha, Q_D, Q_Z, Q_G, Q_U, Q_K, Q_B, Q_V, Q_N, Q_g, Q_gz, Q_gf, E_10, E_11, E_12, E_14⟩ hb_ hon hoff
     refine ⟨_, rfl, fun K hK => ?_⟩
     have e46 : a'.tmps[46]? = some (.int .i64 hi) := by rw [ha]; exact putSel_on (e := (9, 46, .int .i64 hi)) 4 rfl rfl (hon 9 (by kernel_rfl)) rfl
     replace ha := Aside0.mk ha
     refine value_ (w1 := w') (v := .int .i64 hi) (by rfl) rfl ?_ ?_
     ·go_simp
      (try simp only [i64_w])
      try rfl
     exact hK.out _ _ ⟨vn, gb, m10, m11, m12, m14, (by rw [ha.out]; exact putSel_upk 6 hb_ rfl rfl rfl), Q_D, Q_Z, Q_G, Q_U, Q_K, Q_B, Q_V, Q_N, Q_g, Q_gz, Q_gf, E_10, E_11, E_12, E_14⟩
    exact steps_nil
   rintro b_ a' w10 hall ⟨vn, g2, m10, m11, m12, m14, ha, Q_D, Q_Z, Q_G, Q_U, Q_K, Q_B, Q_V, Q_N, Q_g, Q_gz, Q_gf, E_10, E_11, E_12, E_14⟩
   have hb0_ := hall 0 (by kernel_rfl)
   have hb6_ := hall 6 (by kernel_rfl)
   have hb7_ := hall 7 (by kernel_rfl)
   have hb8_ := hall 8 (by kernel_rfl)
   have hb9_ := hall 9 (by kernel_rfl)
   have hb10_ := hall 10 (by kernel_rfl)
   have hb11_ := hall 11 (by kernel_rfl)
   have hb12_ := hall 12 (by kernel_rfl)
   obtain rfl := E_10 hb6_
   obtain rfl := E_11 hb7_
   obtain rfl := E_12 hb8_
   obtain rfl := E_14 hb10_
   obtain ⟨A3, c3, rfl⟩ := Kd.R_slice (Q_N hb6_).1
   subst ha
   simp only [putSel, hb0_, hb6_, hb7_, hb8_, hb9_, hb10_, hb11_, hb12_, if_true, Act.put, List.setIfInBounds_toArray, List.set_cons_zero, List.set_cons_succ]
   have BD10 := Aside0.mk Q_D
   have BR10 := Aside0.mk Q_Z
   have HU10 := Aside0.mk Q_U
   have HK10 := Aside0.mk Q_K
   have HB10 := Aside0.mk Q_B
   have HN10 := Aside0.mk (Q_N hb6_).1
   have HS10 := Aside0.mk (Q_N hb6_).2
   have GG10 := Aside0.mk (Q_g hb10_)
   have BG10 := Aside0.mk (Q_gf hb11_)
   clear hall hb0_ hb6_ hb7_ hb8_ hb9_ hb10_ hb11_ hb12_ Q_D Q_Z Q_G Q_U Q_K Q_B Q_V Q_N Q_g Q_gz Q_gf E_10 E_11 E_12 E_14 n0_ n1_ n2_ n3_ n4_ n5_ n6_ n7_ HT_ HW_
   have d100 : w10.cell? ⟨g2, 0, none⟩ = some (.int .i64 n2) := (blk_cell BG10.out 0).trans rfl
   have d101 : w10.cell? ⟨g2, 1, none⟩ = some (.slice A3 l2.length c3) := (blk_cell BG10.out 1).trans rfl
   have HF10 : Aside0 (∀ k_, w10.heap.size ≤ k_ → (Value.slice A l.length c).ownBlock = some k_ ∨ w.heap.size ≤ k_) := ⟨fun k_ hk => .inr (Nat.le_trans HK10.out.1 hk)⟩
   go_wp2_with (go_at_call 130; (with_reducible refine (spec_l8Add.strong n2 _ _ l2 v lo hi r1 r2 r3 w0 _ HB10.out HN10.out HF10.out H.out).mono ?_); rintro e w11 ⟨v3, rfl, s1, s2, s3, s4⟩; obtain ⟨A4, c4, rfl⟩ := Kd.R_slice s1; have BR11 := Aside0.mk (blk_kept BR10.out s3 (spec_l8Rows.own_ne HN10.out BR10.out)); have HK11 := Aside0.mk (HK10.out.then_ s3 HN10.out.1); have HS11 := Aside0.mk (HS10.out.trans s4); have HN11 := Aside0.mk s1; have HB11 := Aside0.mk s2; have r110 : w11.cell? ⟨gr, 0, none⟩ = some (.int .i64 0) := (blk_cell BR11.out 0).trans rfl; have r111 : w11.cell? ⟨gr, 1, none⟩ = some (.slice none 0 0) := (blk_cell BR11.out 1).trans rfl; have q110 := blk_frozen BR11.out 0; have q111 := blk_frozen BR11.out 1; clear s1 s2 s3 s4)
   refine bodyPost_ret (results_ct rfl _ _ gr 48 #[.int .i64 r1, .slice A4 r2.length c4] (0, 0) _ rfl (blk_put (blk_put BR11.out 0 _ rfl) 1 _ rfl) Try.underlying48 rfl (by kernel_rfl)) rfl ?_
   exact ⟨_, rfl, Kd.R_set (Kd.R_set HN11.out BR11.out (by decide) 0 _) (blk_put BR11.out 0 _ rfl) (by decide) 1 _, (HB11.out.setCell (p := ⟨gr, 0, none⟩) (Nat.le_trans HB.out.size GR.out) _).setCell (p := ⟨gr, 1, none⟩) (Nat.le_trans HB.out.size GR.out) _, (HK11.out.setCell (p := ⟨gr, 0, none⟩) (.inr GR.out) _).setCell (p := ⟨gr, 1, none⟩) (.inr GR.out) _, spec_l8Rows.stays_set (spec_l8Rows.stays_set HS11.out BR11.out) (blk_put BR11.out 0 _ rfl)⟩
  ·rw [if_neg cl] at h
   cases h
theorem spec_l8Rows.strong (k : Nat) (a0 : Int) (ok : Nat → Prop) (u : Value) (l : List S56) (A2 : Option Addr) (c2 : Nat) (vs : List Int) (v r1 : Int) (r2 : List S56) (r3 : Int) (w0 w : World) (hB : Below w0.heap.size w0 w) (ho : Kd.R k56 56 w w0.heap.size ok u l) (hr : ∀ W_, Kept w W_ (fun k_ => u.ownBlock = some k_) → Kd.C (Kd.int .i64) W_ A2 vs.length vs) (hc : vs.length ≤ c2) (hf : ∀ k_, w.heap.size ≤ k_ → ok k_) (h : spec_l8Rows.f k a0 l vs v = some (r1, r2, r3)) :
  Calls Try.prog 126 #[.agg #[.int .i64 a0, u], .slice A2 vs.length c2, .int .i64 v] w fun e w' => ∃ v1 : Value, e = .returned (.tuple #[.agg #[.int .i64 r1, v1], .int .i64 r3]) ∧ Kd.R k56 56 w' w0.heap.size ok v1 r2 ∧ Below w0.heap.size w0 w' ∧ Kept w w' (fun k_ => u.ownBlock = some k_) ∧ Ap.Stays k56 56 w0.heap.size w u l w' v1 r2 := by
 refine (spec_l8Rows.core k a0 u l A2 c2 vs v r1 r2 r3 w0 w hB (Kd.R_mono (Kd.R_tight k56_E ho) (fun _ hk => hk.symm)) hr hc h).mono ?_
 rintro e w' ⟨v1, rfl, h1, h2, h3, h4⟩
 exact ⟨v1, rfl, Kd.R_mono h1 (fun k_ hk => hk.elim (ho.1 k_) (hf k_)), h2, h3, h4⟩
theorem spec_l8Rows.calls (k : Nat) (a0_0 : Int) (P0_1_ : Nat → Prop) (u9000_ : Value) (l0_1 : List S56) (A1 : Option Addr) (c1 : Nat) (l1 : List Int) (a2 r1 : Int) (r2 : List S56) (r3 : Int) (w0 w : World) (hB : Below w0.heap.size w0 w) (ho0_1 : Kd.R k56 56 w w0.heap.size P0_1_ u9000_ l0_1) (hr1 : ∀ W_, Kept w W_ (fun k_ => P0_1_ k_) → Kd.C (Kd.int .i64) W_ A1 l1.length l1) (hc1 : l1.length ≤ c1) (h : spec_l8Rows.f k a0_0 l0_1 l1 a2 = some (r1, r2, r3)) :
  Calls Try.prog 126 #[.agg #[.int .i64 a0_0, u9000_], .slice A1 l1.length c1, .int .i64 a2] w fun e w' => ∃ v1_ : Value, e = .returned (.tuple #[.agg #[.int .i64 r1, v1_], .int .i64 r3]) ∧ Kd.R k56 56 w' w0.heap.size (fun k_ => (P0_1_ k_ ∨ w.heap.size ≤ k_)) v1_ r2 ∧ Below w0.heap.size w0 w' ∧ Kept w w' (fun k_ => P0_1_ k_) := by
 refine (spec_l8Rows.strong k a0_0 (fun k_ => P0_1_ k_ ∨ w.heap.size ≤ k_) u9000_ l0_1 A1 c1 l1 a2 r1 r2 r3 w0 w hB (Kd.R_mono ho0_1 (fun _ hk => .inl hk)) (fun W_ hk_ => hr1 W_ (hk_.mono (fun k_ hk => ho0_1.1 k_ hk))) hc1 (fun _ hk => .inr hk) h).mono ?_
 rintro e w' ⟨v1, rfl, h1, h2, h3, _⟩
 exact ⟨v1, rfl, h1, h2, h3.mono (fun k_ hk => ho0_1.1 k_ hk)⟩

/-! ### spec_l8Draw: function 116 -/
mutual
def spec_l8Draw.l0 : Nat → List Int → Int → List Int → Int → Int → List (S56) → Option (Int × (List (S56)) × List Int × Int)
 | 0, _, _, _, _, _, _ => none
 | k + 1, x7, x8, x1000, x1001, x116000, x116001 => if x8 > 0 then ((spec_l40Rd_num.f k x1000 x1001 (([2, 2, 3, 5] : List Int))).bind fun bt130 => (spec_l8Draw.l1 k x7 x8 (([] : List Int)) bt130.1 0 x1000 bt130.2 x116000 x116001)) else (some (x116000, x116001, x7, x1001))
def spec_l8Draw.l1 : Nat → List Int → Int → List Int → Int → Int → List Int → Int → Int → List (S56) → Option (Int × (List (S56)) × List Int × Int)
 | 0, _, _, _, _, _, _, _, _, _ => none
 | k + 1, x7, x8, x9, x10, x11, x1000, x1001, x116000, x116001 => if 0 ≤ x116000 then (if x11 < (shl .i64 1 x116000) then ((spec_l40Rd_pick.f k x1000 x1001 x10).bind fun bt132 => (if bt132.1 = 0 then (if x9.length < 17592186044416 then (spec_l8Draw.l1 k x7 x8 (x9 ++ [1]) x10 (wrap64 (x11 + 1)) x1000 bt132.2 x116000 x116001) else (none)) else (if x9.length < 17592186044416 then (spec_l8Draw.l1 k x7 x8 (x9 ++ [0]) x10 (wrap64 (x11 + 1)) x1000 bt132.2 x116000 x116001) else (none)))) else ((spec_l8Rows.f k x116000 x116001 x9 0).bind fun bt140 => (if x7.length < 17592186044416 then (spec_l8Draw.l0 k (x7 ++ [bt140.2.2]) (wrap64 (x8 - 1)) x1000 x1001 bt140.1 bt140.2.1) else (none)))) else (none)
end
def spec_l8Draw.f (k : Nat) (s0_0 : List Int) (s0_1 : Int) (a1 : Int) : Option (Int × (List (S56)) × List Int × Int) := (spec_l40Rd_pick.f k s0_0 s0_1 (wrap64 (a1 + 1))).bind fun bt113 => ((spec_l40Rd_num.f k s0_0 bt113.2 (([1, 2, 3, 0] : List Int))).bind fun bt122 => (spec_l8Draw.l0 k (([0, 1] : List Int)) bt122.1 s0_0 bt122.2 bt113.1 ([] : List (S56))))
theorem spec_l8Draw.mono_l : ∀ k, (∀ y0 y1 y2 y3 y4 y5, LeO (spec_l8Draw.l0 k y0 y1 y2 y3 y4 y5) (spec_l8Draw.l0 (k + 1) y0 y1 y2 y3 y4 y5)) ∧ (∀ y0 y1 y2 y3 y4 y5 y6 y7 y8, LeO (spec_l8Draw.l1 k y0 y1 y2 y3 y4 y5 y6 y7 y8) (spec_l8Draw.l1 (k + 1) y0 y1 y2 y3 y4 y5 y6 y7 y8))
 | 0 => ⟨fun _ _ _ _ _ _ r h => by simp [spec_l8Draw.l0] at h, fun _ _ _ _ _ _ _ _ _ r h => by simp [spec_l8Draw.l1] at h⟩
 | k + 1 => by
  obtain ⟨ih0, ih1⟩ := spec_l8Draw.mono_l k
  refine ⟨?_, ?_⟩
  ·intro y0 y1 y2 y3 y4 y5
   unfold spec_l8Draw.l0
   repeat' first
   | (with_reducible exact ih0 _ _ _ _ _ _)
   | (with_reducible exact ih1 _ _ _ _ _ _ _ _ _)
   | (with_reducible exact spec_l40Rd_num.mono _ _ _ _)
   | (with_reducible exact spec_l40Rd_pick.mono _ _ _ _)
   | (with_reducible exact spec_l8Rows.mono _ _ _ _ _)
   | (with_reducible exact LeO.refl _)
   | (with_reducible exact LeO.none _)
   | (with_reducible refine LeO.ite ?_ ?_)
   | (with_reducible refine LeO.bind ?_ (fun _ => ?_))
  ·intro y0 y1 y2 y3 y4 y5 y6 y7 y8
   unfold spec_l8Draw.l1
   repeat' first
   | (with_reducible exact ih0 _ _ _ _ _ _)
   | (with_reducible exact ih1 _ _ _ _ _ _ _ _ _)
   | (with_reducible exact spec_l40Rd_num.mono _ _ _ _)
   | (with_reducible exact spec_l40Rd_pick.mono _ _ _ _)
   | (with_reducible exact spec_l8Rows.mono _ _ _ _ _)
   | (with_reducible exact LeO.refl _)
   | (with_reducible exact LeO.none _)
   | (with_reducible refine LeO.ite ?_ ?_)
   | (with_reducible refine LeO.bind ?_ (fun _ => ?_))
theorem spec_l8Draw.mono : ∀ a0 a1 a2 k, LeO (spec_l8Draw.f k a0 a1 a2) (spec_l8Draw.f (k + 1) a0 a1 a2) := by
 intro a0 a1 a2 k
 obtain ⟨ih0, ih1⟩ := spec_l8Draw.mono_l k
 unfold spec_l8Draw.f
 repeat' first
   | (with_reducible exact ih0 _ _ _ _ _ _)
   | (with_reducible exact ih1 _ _ _ _ _ _ _ _ _)
   | (with_reducible exact spec_l40Rd_num.mono _ _ _ _)
   | (with_reducible exact spec_l40Rd_pick.mono _ _ _ _)
   | (with_reducible exact spec_l8Rows.mono _ _ _ _ _)
   | (with_reducible exact LeO.refl _)
   | (with_reducible exact LeO.none _)
   | (with_reducible refine LeO.ite ?_ ?_)
   | (with_reducible refine LeO.bind ?_ (fun _ => ?_))
set_option maxHeartbeats 8000000 in
set_option maxRecDepth 100000 in
theorem spec_l8Draw.calls (k : Nat) (g : Nat) (s0_0 : List Int) (s0_1 : Int) (a1 : Int) (r1 : Int) (r2 : List (S56)) (r3 : List Int) (r4 : Int) (w0 w : World) (hI : IsS121 w0 w g s0_0 s0_1) (hB : Below w0.heap.size w0 w) (h : spec_l8Draw.f k s0_0 s0_1 a1 = some (r1, r2, r3, r4)) :
  Calls Try.prog 116 #[.pointer (some ⟨g, 0, none⟩), .int .i64 a1] w fun e w' => ∃ v1_ v2_ : Value, e = .returned (.tuple #[.agg #[.int .i64 r1, v1_], v2_]) ∧ Kd.R k56 56 w' w.heap.size (fun _ => True) v1_ r2 ∧ Kd.R (Kd.int .i64) 3 w' w.heap.size (fun _ => True) v2_ r3 ∧ IsS121 w0 w' g s0_0 r4 ∧ Below w0.heap.size w0 w' ∧ KeepBut w w' g none := by
 have hu48 := Try.underlying48
 have HI0 := Aside0.mk hI
 have HK := Aside0.mk (KeepBut.refl w g none)
 have HL := Aside0.mk hB.size
 clear hI
 have HW0 := Aside0.mk hB.size
 have HB := Aside0.mk hB
 clear hB
 have H : ((spec_l40Rd_pick.f k s0_0 s0_1 (wrap64 (a1 + 1))).bind fun bt113 => ((spec_l40Rd_num.f k s0_0 bt113.2 (([1, 2, 3, 0] : List Int))).bind fun bt122 => (spec_l8Draw.l0 k (([0, 1] : List Int)) bt122.1 s0_0 bt122.2 bt113.1 ([] : List (S56))))) = some (r1, r2, r3, r4) := h
 clear h
 replace H := Option.bind_eq_some_iff.mp H
 obtain ⟨⟨t113, t114⟩, A30, H⟩ := H
 replace H : ((spec_l40Rd_num.f k s0_0 t114 (([1, 2, 3, 0] : List Int))).bind fun bt122 => (spec_l8Draw.l0 k (([0, 1] : List Int)) bt122.1 s0_0 bt122.2 t113 ([] : List (S56)))) = some (r1, r2, r3, r4) := H
 have A3 := Aside0.mk A30
 clear A30
 obtain ⟨y116, hy116⟩ : ∃ y_ : List Int, y_ = (([0, 1] : List Int)) := ⟨_, rfl⟩
 replace H : ((spec_l40Rd_num.f k s0_0 t114 (([1, 2, 3, 0] : List Int))).bind fun bt122 => (spec_l8Draw.l0 k y116 bt122.1 s0_0 bt122.2 t113 ([] : List (S56)))) = some (r1, r2, r3, r4) := by first | (rw [hy116]; with_reducible exact H) | (have H2_ := (Option.bind_some _ _).symm.trans H; rw [hy116]; with_reducible exact H2_) | (have H2_ := (Option.bind_some _ _).symm.trans H; with_reducible exact H2_) | with_reducible exact H | (rw [hy116]; exact H) | exact H
 have Ny116 := Aside0.mk hy116
 clear hy116
 obtain ⟨y119, hy119⟩ : ∃ y_ : List Int, y_ = (([1, 2, 3, 0] : List Int)) := ⟨_, rfl⟩
 replace H : ((spec_l40Rd_num.f k s0_0 t114 y119).bind fun bt122 => (spec_l8Draw.l0 k y116 bt122.1 s0_0 bt122.2 t113 ([] : List (S56)))) = some (r1, r2, r3, r4) := by first | (rw [hy119]; with_reducible exact H) | (have H2_ := (Option.bind_some _ _).symm.trans H; rw [hy119]; with_reducible exact H2_) | (have H2_ := (Option.bind_some _ _).symm.trans H; with_reducible exact H2_) | with_reducible exact H | (rw [hy119]; exact H) | exact H
 have Ny119 := Aside0.mk hy119
 clear hy119
 replace H := Option.bind_eq_some_iff.mp H
 obtain ⟨⟨t122, t123⟩, A40, H⟩ := H
 replace H : (spec_l8Draw.l0 k y116 t122 s0_0 t123 t113 ([] : List (S56))) = some (r1, r2, r3, r4) := H
 have A4 := Aside0.mk A40
 clear A40
 have H' := Aside0.mk H
 clear H
 go_enter Try.func116, Try.ntmps116
 go_wp2_with (first | ((with_reducible refine gate_dst (N := 4) rfl ?_); refine box_event ?hg (N := 4) ?hd (cs := #[.int .i64 0, .slice none 0 0]) (t := 48) ?hr ?_; (case hd => rfl); (case hg => rfl); (case hr => first | (go_simp; done) | (go_simp; rfl)); intro gb112 hg w5 hbox hb; have n0_ := Aside0.mk (IsS121.below (by repeat (first | (with_reducible first | exact HI0.out | apply IsS121.alloc | apply IsS121.drewN | apply IsS121.drew | apply IsS121.set_1) | exact HI0.out)) hb); have n1_ := Aside0.mk (KeepBut.trans (by repeat (first | (with_reducible first | exact HK.out | apply KeepBut.set_ | apply keep_drewN | apply keep_drew | apply keep_alloc) | exact HK.out)) (KeepBut.of_below hb g none) (.inl rfl)); have n2_ := Aside0.mk (below_step (by repeat (first | (with_reducible first | exact HB.out | apply bwA | apply bwN | apply bwD | refine below_set ?_ (IsS121.ge HI0.out)) | exact HB.out)) hb); have n3_ := Aside0.mk (hbox); have n4_ := Aside0.mk ((by rw [hg]; exact (keep_size (w := w) (g := g) (row := none) (by repeat (first | (with_reducible first | exact HK.out | apply KeepBut.set_ | apply keep_drewN | apply keep_drew | apply keep_alloc) | exact HK.out))) : w.heap.size ≤ gb112)); have n5_ := Aside0.mk ((Nat.le_trans HW0.out (by rw [hg]; exact (keep_size (w := w) (g := g) (row := none) (by repeat (first | (with_reducible first | exact HK.out | apply KeepBut.set_ | apply keep_drewN | apply keep_drew | apply keep_alloc) | exact HK.out))) : w.heap.size ≤ gb112) : w0.heap.size ≤ gb112)); have n6_ := Aside0.mk ((by rw [hg]; exact Nat.ne_of_lt (IsS121.lt (show IsS121 w0 _ g s0_0 s0_1 from by repeat (first | (with_reducible first | exact HI0.out | apply IsS121.alloc | apply IsS121.drewN | apply IsS121.drew | apply IsS121.set_1) | exact HI0.out))) : g ≠ gb112)); have n7_ := Aside0.mk ((by rw [hg]; exact Nat.ne_of_gt (IsS121.lt (show IsS121 w0 _ g s0_0 s0_1 from by repeat (first | (with_reducible first | exact HI0.out | apply IsS121.alloc | apply IsS121.drewN | apply IsS121.drew | apply IsS121.set_1) | exact HI0.out))) : gb112 ≠ g)); clear HI0; clear HK; clear HB; have HI0 := n0_; have HK := n1_; have HB := n2_; have BK112 := n3_; have GW112 := n4_; have GE112 := n5_; have NB0_112 := n6_; have NB112_0 := n7_; clear n0_ n1_ n2_ n3_ n4_ n5_ n6_ n7_; clear hb hbox hg) | ((with_reducible refine gate_callee (f := 79) rfl ?_); refine goesL_ (some 17) rfl rfl Try.func79 (by kernel_rfl) rfl #[.pointer (some ⟨g, 0, none⟩), .int .i64 (wrap64 (a1 + 1))] rfl lmB ?_; (with_reducible refine (spec_l40Rd_pick.calls k g s0_0 s0_1 (wrap64 (a1 + 1)) t113 t114 w0 _ ?side1 ?side2 A3.out).mono ?_); (case side1 => repeat (first | (with_reducible first | exact HI0.out | apply IsS121.alloc | apply IsS121.drewN | apply IsS121.drew | apply IsS121.set_1 | refine IsS121.far ?_ NB0_112.out _) | exact HI0.out)); (case side2 => repeat (first | (with_reducible first | exact HB.out | apply bwA | apply bwN | apply bwD | refine below_set ?_ (IsS121.ge HI0.out) | refine below_set ?_ GE112.out) | exact HB.out)); rintro e w6 ⟨rfl, hi, hb, hk⟩; refine ⟨_, rfl, ?_⟩; have n0_ := Aside0.mk (KeepBut.blk hk (g' := gb112) (o := .cells #[.int .i64 0, .slice none 0 0] 48 (0, 0)) (bvK BK112.out) NB112_0.out (by simp)); have n1_ := Aside0.mk (KeepBut.trans (by repeat (first | (with_reducible first | exact HK.out | apply KeepBut.set_ | apply keep_drewN | apply keep_drew | apply keep_alloc | refine keep_far ?_ GW112.out _) | exact HK.out)) hk (.inl rfl)); have n2_ := Aside0.mk (hb); have n3_ := Aside0.mk (hi); clear BK112; clear HK; clear HB; clear HI0; have BK112 := n0_; have HK := n1_; have HB := n2_; have HI0 := n3_; clear n0_ n1_ n2_ n3_; (try clear hb); (try clear hb2); (try clear hk); (try clear hi)) | ((with_reducible refine gate_dst (N := 6) rfl ?_); refine box_event ?hg (N := 6) ?hd (cs := #[.int .i64 0, .slice none 0 0]) (t := 48) ?hr ?_; (case hd => rfl); (case hg => rfl); (case hr => first | (go_simp; done) | (go_simp; rfl)); intro gb115 hg w7 hbox hb; have n0_ := Aside0.mk (IsS121.below (by repeat (first | (with_reducible first | exact HI0.out | apply IsS121.alloc | apply IsS121.drewN | apply IsS121.drew | apply IsS121.set_1 | refine IsS121.far ?_ NB0_112.out _) | exact HI0.out)) hb); have n1_ := Aside0.mk (blk_below (g := gb112) (o := .cells #[.int .i64 0, .slice none 0 0] 48 (0, 0)) (bvK BK112.out) hb); have n2_ := Aside0.mk (KeepBut.trans (by repeat (first | (with_reducible first | exact HK.out | apply KeepBut.set_ | apply keep_drewN | apply keep_drew | apply keep_alloc | refine keep_far ?_ GW112.out _) | exact HK.out)) (KeepBut.of_below hb g none) (.inl rfl)); have n3_ := Aside0.mk (below_step (by repeat (first | (with_reducible first | exact HB.out | apply bwA | apply bwN | apply bwD | refine below_set ?_ (IsS121.ge HI0.out) | refine below_set ?_ GE112.out) | exact HB.out)) hb); have n4_ := Aside0.mk (hbox); have n5_ := Aside0.mk ((by rw [hg]; exact (keep_size (w := w) (g := g) (row := none) (by repeat (first | (with_reducible first | exact HK.out | apply KeepBut.set_ | apply keep_drewN | apply keep_drew | apply keep_alloc | refine keep_far ?_ GW112.out _) | exact HK.out))) : w.heap.size ≤ gb115)); have n6_ := Aside0.mk ((Nat.le_trans HW0.out (by rw [hg]; exact (keep_size (w := w) (g := g) (row := none) (by repeat (first | (with_reducible first | exact HK.out | apply KeepBut.set_ | apply keep_drewN | apply keep_drew | apply keep_alloc | refine keep_far ?_ GW112.out _) | exact HK.out))) : w.heap.size ≤ gb115) : w0.heap.size ≤ gb115)); have n7_ := Aside0.mk ((by rw [hg]; exact Nat.ne_of_lt (blk_lt (g := gb112) (o := .cells #[.int .i64 0, .slice none 0 0] 48 (0, 0)) (bvK BK112.out)) : gb112 ≠ gb115)); have n8_ := Aside0.mk ((by rw [hg]; exact Nat.ne_of_gt (blk_lt (g := gb112) (o := .cells #[.int .i64 0, .slice none 0 0] 48 (0, 0)) (bvK BK112.out)) : gb115 ≠ gb112)); have n9_ := Aside0.mk ((by rw [hg]; exact Nat.ne_of_lt (IsS121.lt (show IsS121 w0 _ g s0_0 t114 from by repeat (first | (with_reducible first | exact HI0.out | apply IsS121.alloc | apply IsS121.drewN | apply IsS121.drew | apply IsS121.set_1 | refine IsS121.far ?_ NB0_112.out _) | exact HI0.out))) : g ≠ gb115)); have n10_ := Aside0.mk ((by rw [hg]; exact Nat.ne_of_gt (IsS121.lt (show IsS121 w0 _ g s0_0 t114 from by repeat (first | (with_reducible first | exact HI0.out | apply IsS121.alloc | apply IsS121.drewN | apply IsS121.drew | apply IsS121.set_1 | refine IsS121.far ?_ NB0_112.out _) | exact HI0.out))) : gb115 ≠ g)); clear HI0; clear BK112; clear HK; clear HB; have HI0 := n0_; have BK112 := n1_; have HK := n2_; have HB := n3_; have BK115 := n4_; have GW115 := n5_; have GE115 := n6_; have NB112_115 := n7_; have NB115_112 := n8_; have NB0_115 := n9_; have NB115_0 := n10_; clear n0_ n1_ n2_ n3_ n4_ n5_ n6_ n7_ n8_ n9_ n10_; clear hb hbox hg; have hnb8 := NB115_112.out; have hnc8 := NB112_115.out; have hnb9 := NB115_0.out; have hnc9 := NB0_115.out; have hcz10_0 : w7.cell? ⟨gb115, 0, none⟩ = some (.int .i64 0) := (blk_cell BK115.out 0).trans rfl; have hcz10_1 : w7.cell? ⟨gb115, 1, none⟩ = some (.slice none 0 0) := (blk_cell BK115.out 1).trans rfl; have hfz10_0 := blk_frozen BK115.out 0; have hfz10_1 := blk_frozen BK115.out 1) | ((with_reducible refine gate_dst (N := 19) rfl ?_); refine Kd.R_lit (Kd.int .i64) _ 3 ?hg (N := 19) ?hd (xs := ([0, 1] : List Int)) (inner := [.int .i64 0, .int .i64 1]) (ok := fun _ => True) (okp := fun _ => True) ?hr ?hp (fun _ hk => hk) trivial (Below.refl _ _) (Nat.le_refl _) (by simp) ?_; (case hd => rfl); (case hg => rfl); (case hr => first | (go_simp; done) | (go_simp; rfl)); (case hp => exact (Reps.one (show Kd.M (Kd.int .i64) _ _ _ 0 [.int .i64 0] from rfl) (Reps.one (show Kd.M (Kd.int .i64) _ _ _ 1 [.int .i64 1] from rfl) (Reps.none _ _)))); intro v117 w11 ho12 hb hg_ hnew_; clear hg_ hnew_; (first | rw [← Ny116.out] at ho12 | (simp only [Int.reduceToNat] at ho12; rw [← Ny116.out] at ho12)); have n0_ := Aside0.mk (Kd.R_lower ho12 (keep_size (w := w) (g := g) (row := none) (by repeat (first | (with_reducible first | exact HK.out | apply KeepBut.set_ | apply keep_drewN | apply keep_drew | apply keep_alloc | refine keep_far ?_ GW112.out _ | refine keep_far ?_ GW115.out _) | exact HK.out)))); have n1_ := Aside0.mk (IsS121.below (show IsS121 w0 ((w7.setCell ⟨gb115, 0, none⟩ (.int .i64 t113)).setCell ⟨gb115, 1, none⟩ (.slice none 0 0)) g s0_0 t114 from by repeat (first | (with_reducible first | exact HI0.out | apply IsS121.alloc | apply IsS121.drewN | apply IsS121.drew | apply IsS121.set_1 | refine IsS121.far ?_ NB0_112.out _ | refine IsS121.far ?_ NB0_115.out _) | exact HI0.out)) hb); have n2_ := Aside0.mk (blk_below (g := gb112) (o := .cells #[.int .i64 0, .slice none 0 0] 48 (0, 0)) (by (with_reducible repeat first | apply bkN | apply bkD | apply bkA); refine blk_far ?_ NB112_115.out _; (with_reducible repeat first | apply bkN | apply bkD | apply bkA); refine blk_far ?_ NB112_115.out _; (with_reducible repeat first | apply bkN | apply bkD | apply bkA); exact BK112.out) hb); have n3_ := Aside0.mk (blk_below (g := gb115) (o := .cells #[.int .i64 t113, .slice none 0 0] 48 (0, 0)) (by (with_reducible repeat first | apply bkN | apply bkD | apply bkA); refine blk_put (cs := #[.int .i64 t113, .slice none 0 0]) ?_ 1 _ rfl; (with_reducible repeat first | apply bkN | apply bkD | apply bkA); refine blk_put (cs := #[.int .i64 0, .slice none 0 0]) ?_ 0 _ rfl; (with_reducible repeat first | apply bkN | apply bkD | apply bkA); exact BK115.out) hb); have n4_ := Aside0.mk (KeepBut.trans (by repeat (first | (with_reducible first | exact HK.out | apply KeepBut.set_ | apply keep_drewN | apply keep_drew | apply keep_alloc | refine keep_far ?_ GW112.out _ | refine keep_far ?_ GW115.out _) | exact HK.out)) (KeepBut.of_below hb g none) (.inl rfl)); have n5_ := Aside0.mk (below_step (by repeat (first | (with_reducible first | exact HB.out | apply bwA | apply bwN | apply bwD | refine below_set ?_ (IsS121.ge HI0.out) | refine below_set ?_ GE112.out | refine below_set ?_ GE115.out) | exact HB.out)) hb); clear HI0; clear BK112; clear BK115; clear HK; clear HB; have HO118 := n0_; have HI0 := n1_; have BK112 := n2_; have BK115 := n3_; have HK := n4_; have HB := n5_; clear n0_ n1_ n2_ n3_ n4_ n5_; clear hb ho12) | ((with_reducible refine gate_dst (N := 21) rfl ?_); refine Kd.R_lit (Kd.int .i64) _ 3 ?hg (N := 21) ?hd (xs := ([1, 2, 3, 0] : List Int)) (inner := [.int .i64 1, .int .i64 2, .int .i64 3, .int .i64 0]) (ok := fun _ => True) (okp := fun _ => True) ?hr ?hp (fun _ hk => hk) trivial (Below.refl _ _) (Nat.le_refl _) (by simp) ?_; (case hd => rfl); (case hg => rfl); (case hr => first | (go_simp; done) | (go_simp; rfl)); (case hp => exact (Reps.one (show Kd.M (Kd.int .i64) _ _ _ 1 [.int .i64 1] from rfl) (Reps.one (show Kd.M (Kd.int .i64) _ _ _ 2 [.int .i64 2] from rfl) (Reps.one (show Kd.M (Kd.int .i64) _ _ _ 3 [.int .i64 3] from rfl) (Reps.one (show Kd.M (Kd.int .i64) _ _ _ 0 [.int .i64 0] from rfl) (Reps.none _ _)))))); intro v120 w13 ho14 hb hg_ hnew_; clear hg_ hnew_; (first | rw [← Ny119.out] at ho14 | (simp only [Int.reduceToNat] at ho14; rw [← Ny119.out] at ho14)); have n0_ := Aside0.mk (Kd.R_elder' (rvR HO118.out) (Kd.R_base ho14) hb); have n1_ := Aside0.mk (Kd.R_lower (Kd.R_new' ho14 (Kd.R_lt (rvR HO118.out))) (keep_size (w := w) (g := g) (row := none) (by repeat (first | (with_reducible first | exact HK.out | apply KeepBut.set_ | apply keep_drewN | apply keep_drew | apply keep_alloc | refine keep_far ?_ GW112.out _ | refine keep_far ?_ GW115.out _) | exact HK.out)))); have n2_ := Aside0.mk (IsS121.below (by repeat (first | (with_reducible first | exact HI0.out | apply IsS121.alloc | apply IsS121.drewN | apply IsS121.drew | apply IsS121.set_1 | refine IsS121.far ?_ NB0_112.out _ | refine IsS121.far ?_ NB0_115.out _) | exact HI0.out)) hb); have n3_ := Aside0.mk (blk_below (g := gb112) (o := .cells #[.int .i64 0, .slice none 0 0] 48 (0, 0)) (bvK BK112.out) hb); have n4_ := Aside0.mk (blk_below (g := gb115) (o := .cells #[.int .i64 t113, .slice none 0 0] 48 (0, 0)) (bvK BK115.out) hb); have n5_ := Aside0.mk (KeepBut.trans (by repeat (first | (with_reducible first | exact HK.out | apply KeepBut.set_ | apply keep_drewN | apply keep_drew | apply keep_alloc | refine keep_far ?_ GW112.out _ | refine keep_far ?_ GW115.out _) | exact HK.out)) (KeepBut.of_below hb g none) (.inl rfl)); have n6_ := Aside0.mk (below_step (by repeat (first | (with_reducible first | exact HB.out | apply bwA | apply bwN | apply bwD | refine below_set ?_ (IsS121.ge HI0.out) | refine below_set ?_ GE112.out | refine below_set ?_ GE115.out) | exact HB.out)) hb); clear HO118; clear HI0; clear BK112; clear BK115; clear HK; clear HB; have HO118 := n0_; have HO121 := n1_; have HI0 := n2_; have BK112 := n3_; have BK115 := n4_; have HK := n5_; have HB := n6_; clear n0_ n1_ n2_ n3_ n4_ n5_ n6_; clear hb ho14; obtain ⟨Ao15, co15, eo15⟩ := Kd.R_slice HO121.out; subst eo15) | ((with_reducible refine gate_callee (f := 80) rfl ?_); refine goesL_ (some 22) rfl rfl Try.func80 (by kernel_rfl) rfl #[.pointer (some ⟨g, 0, none⟩), .slice Ao15 y119.length co15] rfl lmB ?_; (with_reducible refine (spec_l40Rd_num.calls k g s0_0 t114 _ _ y119 t122 t123 w0 _ ?side1 ?side2 ?side3 ?side4 ?side5 A4.out).mono ?_); (case side1 => repeat (first | (with_reducible first | exact HI0.out | apply IsS121.alloc | apply IsS121.drewN | apply IsS121.drew | apply IsS121.set_1 | refine IsS121.far ?_ NB0_112.out _ | refine IsS121.far ?_ NB0_115.out _) | exact HI0.out)); (case side2 => repeat (first | (with_reducible first | exact HB.out | apply bwA | apply bwN | apply bwD | refine below_set ?_ (IsS121.ge HI0.out) | refine below_set ?_ GE112.out | refine below_set ?_ GE115.out) | exact HB.out)); (case side3 => exact kcR (Kd.R_reads' HO121.out).2.2); (case side4 => exact (Kd.R_reads' HO121.out).2.1); (case side5 => exact far_slice (IsS121.own_ne HI0.out HO121.out (by decide))); rintro e w16 ⟨rfl, hi, hb, hk⟩; refine ⟨_, rfl, ?_⟩; have n0_ := Aside0.mk (KeepBut.blk hk (g' := gb112) (o := .cells #[.int .i64 0, .slice none 0 0] 48 (0, 0)) (bvK BK112.out) NB112_0.out (by simp)); have n1_ := Aside0.mk (KeepBut.blk hk (g' := gb115) (o := .cells #[.int .i64 t113, .slice none 0 0] 48 (0, 0)) (bvK BK115.out) NB115_0.out (by simp)); have n2_ := Aside0.mk (Kd.R_mono (Kd.R_keep (IsS121.apart (show IsS121 w0 _ g s0_0 t114 from by repeat (first | (with_reducible first | exact HI0.out | apply IsS121.alloc | apply IsS121.drewN | apply IsS121.drew | apply IsS121.set_1 | refine IsS121.far ?_ NB0_112.out _ | refine IsS121.far ?_ NB0_115.out _) | exact HI0.out)) (rvR HO118.out) (by decide)) hk (fun _ h => h.2)) (fun _ h => h.1)); have n3_ := Aside0.mk (Kd.R_mono (Kd.R_keep (IsS121.apart (show IsS121 w0 _ g s0_0 t114 from by repeat (first | (with_reducible first | exact HI0.out | apply IsS121.alloc | apply IsS121.drewN | apply IsS121.drew | apply IsS121.set_1 | refine IsS121.far ?_ NB0_112.out _ | refine IsS121.far ?_ NB0_115.out _) | exact HI0.out)) (rvR HO121.out) (by decide)) hk (fun _ h => h.2)) (fun _ h => h.1)); have n4_ := Aside0.mk (KeepBut.trans (by repeat (first | (with_reducible first | exact HK.out | apply KeepBut.set_ | apply keep_drewN | apply keep_drew | apply keep_alloc | refine keep_far ?_ GW112.out _ | refine keep_far ?_ GW115.out _) | exact HK.out)) hk (.inl rfl)); have n5_ := Aside0.mk (hb); have n6_ := Aside0.mk (hi); clear BK112; clear BK115; clear HO118; clear HO121; clear HK; clear HB; clear HI0; have BK112 := n0_; have BK115 := n1_; have HO118 := n2_; have HO121 := n3_; have HK := n4_; have HB := n5_; have HI0 := n6_; clear n0_ n1_ n2_ n3_ n4_ n5_ n6_; (try clear hb); (try clear hb2); (try clear hk); (try clear hi)))
 go_loopg [7, 8] k (fun kq v7 v8 w' => ∃ (x7_1 : List Int) (x8_1 : Int) (x1001_1 : Int) (x116000_1 : Int) (x116001_1 : List (S56)) (u116001 : Value), v8 = .int .i64 x8_1 ∧ Aside0 (spec_l8Draw.l0 kq x7_1 x8_1 s0_0 x1001_1 x116000_1 x116001_1 = some (r1, r2, r3, r4)) ∧ Aside0 (kq ≤ k) ∧ Aside0 (Kd.R (Kd.int .i64) 3 w' w.heap.size (fun _ => True) v7 x7_1) ∧ Aside0 (Kd.R k56 56 w' w.heap.size (fun _ => True) u116001 x116001_1) ∧ Aside0 (w'.heap[gb112]? = some (.cells #[.int .i64 0, (.slice none 0 0)] 48 (0, 0))) ∧ Aside0 (w'.heap[gb115]? = some (.cells #[.int .i64 x116000_1, u116001] 48 (0, 0))) ∧ Aside0 (IsS121 w0 w' g s0_0 x1001_1) ∧ Aside0 (KeepBut w w' g none) ∧ Aside0 (Below w0.heap.size w0 w'))
 case atStart => exact ⟨(y116), (t122), (t123), (t113), (([] : List (S56))), (.slice none 0 0), rsd, H', ⟨Nat.le_refl _⟩, ⟨by (with_reducible repeat first | apply rvA | apply rvN | apply rvD); exact Kd.R_mono HO118.out (fun _ hk => trivial)⟩, ⟨by first | exact Kd.R_nil _ _ _ _ _ | exact Kd.N_nil _ _ _ _ _ | exact Kd.V_nil _ _ _ _ _ | exact Kd.Q_nil _ _ _ _ _ | exact Kd.S_nil _ _ _ _ _⟩, ⟨bvK BK112.out⟩, ⟨bvK BK115.out⟩, ⟨by repeat (first | (with_reducible first | exact HI0.out | apply IsS121.alloc | apply IsS121.drewN | apply IsS121.drew | apply IsS121.set_1 | refine IsS121.far ?_ NB0_112.out _ | refine IsS121.far ?_ NB0_115.out _) | exact HI0.out)⟩, ⟨by repeat (first | (with_reducible first | exact HK.out | apply KeepBut.set_ | apply keep_drewN | apply keep_drew | apply keep_alloc | refine keep_far ?_ GW112.out _ | refine keep_far ?_ GW115.out _) | exact HK.out)⟩, ⟨by repeat (first | (with_reducible first | exact HB.out | apply bwA | apply bwN | apply bwD | refine below_set ?_ (IsS121.ge HI0.out) | refine below_set ?_ GE112.out | refine below_set ?_ GE115.out) | exact HB.out)⟩⟩
 case round =>
  clear H'
  try clear c1
  try clear p2
  try clear p6
  try clear c7
  try clear c8
  try clear c9
  try clear c11
  try clear hcz10_0
  try clear hcz10_1
  try clear hfz10_0
  try clear hfz10_1
  obtain ⟨x7_1, x8_1, x1001_1, x116000_1, x116001_1, u116001, rfl, HA, HK1, HO_7, HO_116001, BK112, BK115, HI0, HK, HB⟩ := hrel
  cases gk with
  | zero => exact absurd HA.out (by simp [spec_l8Draw.l0])
  | succ k1 =>
   have H := HA.out
   clear HA
   simp only [spec_l8Draw.l0] at H
   by_cases c17 : x8_1 > 0
   ·rw [if_pos c17] at H
    have c17b0 : decide (0 < x8_1) = true := decide_eq_true c17
    clear c17
    obtain ⟨y124, hy124⟩ : ∃ y_ : List Int, y_ = (([] : List Int)) := ⟨_, rfl⟩
    replace H : ((spec_l40Rd_num.f k1 s0_0 x1001_1 (([2, 2, 3, 5] : List Int))).bind fun bt130 => (spec_l8Draw.l1 k1 x7_1 x8_1 y124 bt130.1 0 s0_0 bt130.2 x116000_1 x116001_1)) = some (r1, r2, r3, r4) := by first | (rw [hy124]; with_reducible exact H) | (have H2_ := (Option.bind_some _ _).symm.trans H; rw [hy124]; with_reducible exact H2_) | (have H2_ := (Option.bind_some _ _).symm.trans H; with_reducible exact H2_) | with_reducible exact H | (rw [hy124]; exact H) | exact H
    have Ny124 := Aside0.mk hy124
    clear hy124
    obtain ⟨y127, hy127⟩ : ∃ y_ : List Int, y_ = (([2, 2, 3, 5] : List Int)) := ⟨_, rfl⟩
    replace H : ((spec_l40Rd_num.f k1 s0_0 x1001_1 y127).bind fun bt130 => (spec_l8Draw.l1 k1 x7_1 x8_1 y124 bt130.1 0 s0_0 bt130.2 x116000_1 x116001_1)) = some (r1, r2, r3, r4) := by first | (rw [hy127]; with_reducible exact H) | (have H2_ := (Option.bind_some _ _).symm.trans H; rw [hy127]; with_reducible exact H2_) | (have H2_ := (Option.bind_some _ _).symm.trans H; with_reducible exact H2_) | with_reducible exact H | (rw [hy127]; exact H) | exact H
    have Ny127 := Aside0.mk hy127
    clear hy127
    replace H := Option.bind_eq_some_iff.mp H
    obtain ⟨⟨t130, t131⟩, A180, H⟩ := H
    replace H : (spec_l8Draw.l1 k1 x7_1 x8_1 y124 t130 0 s0_0 t131 x116000_1 x116001_1) = some (r1, r2, r3, r4) := H
    have A18 := Aside0.mk A180
    clear A180
    have H' := Aside0.mk H
    clear H
    go_wp2_with (first | ((with_reducible refine gate_dst (N := 27) rfl ?_); refine Kd.R_lit (Kd.int .i64) _ 3 ?hg (N := 27) ?hd (xs := ([] : List Int)) (inner := []) (ok := fun _ => True) (okp := fun _ => True) ?hr ?hp (fun _ hk => hk) trivial (Below.refl _ _) (Nat.le_refl _) (by simp) ?_; (case hd => rfl); (case hg => rfl); (case hr => first | (go_simp; done) | (go_simp; rfl)); (case hp => exact (Reps.none _ _)); intro v125 w19 ho20 hb hg_ hnew_; clear hg_ hnew_; (first | rw [← Ny124.out] at ho20 | (simp only [Int.reduceToNat] at ho20; rw [← Ny124.out] at ho20)); have n0_ := Aside0.mk (Kd.R_elder' (rvR HO_7.out) (Kd.R_base ho20) hb); have n1_ := Aside0.mk (Kd.R_below (rvR HO_116001.out) hb); have n2_ := Aside0.mk (Kd.R_lower (Kd.R_new' ho20 (Kd.R_lt (rvR HO_7.out))) (keep_size (w := w) (g := g) (row := none) (by repeat (first | (with_reducible first | exact HK.out | apply KeepBut.set_ | apply keep_drewN | apply keep_drew | apply keep_alloc | refine keep_far ?_ GW112.out _ | refine keep_far ?_ GW115.out _) | exact HK.out)))); have n3_ := Aside0.mk (blk_below (g := gb112) (o := .cells #[.int .i64 0, .slice none 0 0] 48 (0, 0)) (bvK BK112.out) hb); have n4_ := Aside0.mk (blk_below (g := gb115) (o := .cells #[.int .i64 x116000_1, u116001] 48 (0, 0)) (bvK BK115.out) hb); have n5_ := Aside0.mk (IsS121.below (by repeat (first | (with_reducible first | exact HI0.out | apply IsS121.alloc | apply IsS121.drewN | apply IsS121.drew | apply IsS121.set_1 | refine IsS121.far ?_ NB0_112.out _ | refine IsS121.far ?_ NB0_115.out _) | exact HI0.out)) hb); have n6_ := Aside0.mk (KeepBut.trans (by repeat (first | (with_reducible first | exact HK.out | apply KeepBut.set_ | apply keep_drewN | apply keep_drew | apply keep_alloc | refine keep_far ?_ GW112.out _ | refine keep_far ?_ GW115.out _) | exact HK.out)) (KeepBut.of_below hb g none) (.inl rfl)); have n7_ := Aside0.mk (below_step (by repeat (first | (with_reducible first | exact HB.out | apply bwA | apply bwN | apply bwD | refine below_set ?_ (IsS121.ge HI0.out) | refine below_set ?_ GE112.out | refine below_set ?_ GE115.out) | exact HB.out)) hb); clear HO_7; clear HO_116001; clear BK112; clear BK115; clear HI0; clear HK; clear HB; have HO_7 := n0_; have HO_116001 := n1_; have HO126 := n2_; have BK112 := n3_; have BK115 := n4_; have HI0 := n5_; have HK := n6_; have HB := n7_; clear n0_ n1_ n2_ n3_ n4_ n5_ n6_ n7_; clear hb ho20) | ((with_reducible refine gate_dst (N := 29) rfl ?_); refine Kd.R_lit (Kd.int .i64) _ 3 ?hg (N := 29) ?hd (xs := ([2, 2, 3, 5] : List Int)) (inner := [.int .i64 2, .int .i64 2, .int .i64 3, .int .i64 5]) (ok := fun _ => True) (okp := fun _ => True) ?hr ?hp (fun _ hk => hk) trivial (Below.refl _ _) (Nat.le_refl _) (by simp) ?_; (case hd => rfl); (case hg => rfl); (case hr => first | (go_simp; done) | (go_simp; rfl)); (case hp => exact (Reps.one (show Kd.M (Kd.int .i64) _ _ _ 2 [.int .i64 2] from rfl) (Reps.one (show Kd.M (Kd.int .i64) _ _ _ 2 [.int .i64 2] from rfl) (Reps.one (show Kd.M (Kd.int .i64) _ _ _ 3 [.int .i64 3] from rfl) (Reps.one (show Kd.M (Kd.int .i64) _ _ _ 5 [.int .i64 5] from rfl) (Reps.none _ _)))))); intro v128 w21 ho22 hb hg_ hnew_; clear hg_ hnew_; (first | rw [← Ny127.out] at ho22 | (simp only [Int.reduceToNat] at ho22; rw [← Ny127.out] at ho22)); have n0_ := Aside0.mk (Kd.R_elder' (rvR HO_7.out) (Kd.R_base ho22) hb); have n1_ := Aside0.mk (Kd.R_below (rvR HO_116001.out) hb); have n2_ := Aside0.mk (Kd.R_elder' (rvR HO126.out) (Kd.R_base ho22) hb); have n3_ := Aside0.mk (Kd.R_lower (Kd.R_new' (Kd.R_new' ho22 (Kd.R_lt (rvR HO_7.out))) (Kd.R_lt (rvR HO126.out))) (keep_size (w := w) (g := g) (row := none) (by repeat (first | (with_reducible first | exact HK.out | apply KeepBut.set_ | apply keep_drewN | apply keep_drew | apply keep_alloc | refine keep_far ?_ GW112.out _ | refine keep_far ?_ GW115.out _) | exact HK.out)))); have n4_ := Aside0.mk (blk_below (g := gb112) (o := .cells #[.int .i64 0, .slice none 0 0] 48 (0, 0)) (bvK BK112.out) hb); have n5_ := Aside0.mk (blk_below (g := gb115) (o := .cells #[.int .i64 x116000_1, u116001] 48 (0, 0)) (bvK BK115.out) hb); have n6_ := Aside0.mk (IsS121.below (by repeat (first | (with_reducible first | exact HI0.out | apply IsS121.alloc | apply IsS121.drewN | apply IsS121.drew | apply IsS121.set_1 | refine IsS121.far ?_ NB0_112.out _ | refine IsS121.far ?_ NB0_115.out _) | exact HI0.out)) hb); have n7_ := Aside0.mk (KeepBut.trans (by repeat (first | (with_reducible first | exact HK.out | apply KeepBut.set_ | apply keep_drewN | apply keep_drew | apply keep_alloc | refine keep_far ?_ GW112.out _ | refine keep_far ?_ GW115.out _) | exact HK.out)) (KeepBut.of_below hb g none) (.inl rfl)); have n8_ := Aside0.mk (below_step (by repeat (first | (with_reducible first | exact HB.out | apply bwA | apply bwN | apply bwD | refine below_set ?_ (IsS121.ge HI0.out) | refine below_set ?_ GE112.out | refine below_set ?_ GE115.out) | exact HB.out)) hb); clear HO_7; clear HO_116001; clear HO126; clear BK112; clear BK115; clear HI0; clear HK; clear HB; have HO_7 := n0_; have HO_116001 := n1_; have HO126 := n2_; have HO129 := n3_; have BK112 := n4_; have BK115 := n5_; have HI0 := n6_; have HK := n7_; have HB := n8_; clear n0_ n1_ n2_ n3_ n4_ n5_ n6_ n7_ n8_; clear hb ho22; obtain ⟨Ao23, co23, eo23⟩ := Kd.R_slice HO129.out; subst eo23) | ((with_reducible refine gate_callee (f := 80) rfl ?_); refine goesL_ (some 30) rfl rfl Try.func80 (by kernel_rfl) rfl #[.pointer (some ⟨g, 0, none⟩), .slice Ao23 y127.length co23] rfl lmB ?_; (with_reducible refine (spec_l40Rd_num.calls k1 g s0_0 x1001_1 _ _ y127 t130 t131 w0 _ ?side1 ?side2 ?side3 ?side4 ?side5 A18.out).mono ?_); (case side1 => repeat (first | (with_reducible first | exact HI0.out | apply IsS121.alloc | apply IsS121.drewN | apply IsS121.drew | apply IsS121.set_1 | refine IsS121.far ?_ NB0_112.out _ | refine IsS121.far ?_ NB0_115.out _) | exact HI0.out)); (case side2 => repeat (first | (with_reducible first | exact HB.out | apply bwA | apply bwN | apply bwD | refine below_set ?_ (IsS121.ge HI0.out) | refine below_set ?_ GE112.out | refine below_set ?_ GE115.out) | exact HB.out)); (case side3 => exact kcR (Kd.R_reads' HO129.out).2.2); (case side4 => exact (Kd.R_reads' HO129.out).2.1); (case side5 => exact far_slice (IsS121.own_ne HI0.out HO129.out (by decide))); rintro e w24 ⟨rfl, hi, hb, hk⟩; refine ⟨_, rfl, ?_⟩; have n0_ := Aside0.mk (Kd.R_mono (Kd.R_keep (IsS121.apart (show IsS121 w0 _ g s0_0 x1001_1 from by repeat (first | (with_reducible first | exact HI0.out | apply IsS121.alloc | apply IsS121.drewN | apply IsS121.drew | apply IsS121.set_1 | refine IsS121.far ?_ NB0_112.out _ | refine IsS121.far ?_ NB0_115.out _) | exact HI0.out)) (rvR HO_7.out) (by decide)) hk (fun _ h => h.2)) (fun _ h => h.1)); have n1_ := Aside0.mk (Kd.R_mono (Kd.R_keep (IsS121.apart (show IsS121 w0 _ g s0_0 x1001_1 from by repeat (first | (with_reducible first | exact HI0.out | apply IsS121.alloc | apply IsS121.drewN | apply IsS121.drew | apply IsS121.set_1 | refine IsS121.far ?_ NB0_112.out _ | refine IsS121.far ?_ NB0_115.out _) | exact HI0.out)) (rvR HO_116001.out) (by decide)) hk (fun _ h => h.2)) (fun _ h => h.1)); have n2_ := Aside0.mk (KeepBut.blk hk (g' := gb112) (o := .cells #[.int .i64 0, .slice none 0 0] 48 (0, 0)) (bvK BK112.out) NB112_0.out (by simp)); have n3_ := Aside0.mk (KeepBut.blk hk (g' := gb115) (o := .cells #[.int .i64 x116000_1, u116001] 48 (0, 0)) (bvK BK115.out) NB115_0.out (by simp)); have n4_ := Aside0.mk (Kd.R_mono (Kd.R_keep (IsS121.apart (show IsS121 w0 _ g s0_0 x1001_1 from by repeat (first | (with_reducible first | exact HI0.out | apply IsS121.alloc | apply IsS121.drewN | apply IsS121.drew | apply IsS121.set_1 | refine IsS121.far ?_ NB0_112.out _ | refine IsS121.far ?_ NB0_115.out _) | exact HI0.out)) (rvR HO126.out) (by decide)) hk (fun _ h => h.2)) (fun _ h => h.1)); have n5_ := Aside0.mk (Kd.R_mono (Kd.R_keep (IsS121.apart (show IsS121 w0 _ g s0_0 x1001_1 from by repeat (first | (with_reducible first | exact HI0.out | apply IsS121.alloc | apply IsS121.drewN | apply IsS121.drew | apply IsS121.set_1 | refine IsS121.far ?_ NB0_112.out _ | refine IsS121.far ?_ NB0_115.out _) | exact HI0.out)) (rvR HO129.out) (by decide)) hk (fun _ h => h.2)) (fun _ h => h.1)); have n6_ := Aside0.mk (KeepBut.trans (by repeat (first | (with_reducible first | exact HK.out | apply KeepBut.set_ | apply keep_drewN | apply keep_drew | apply keep_alloc | refine keep_far ?_ GW112.out _ | refine keep_far ?_ GW115.out _) | exact HK.out)) hk (.inl rfl)); have n7_ := Aside0.mk (hb); have n8_ := Aside0.mk (hi); clear HO_7; clear HO_116001; clear BK112; clear BK115; clear HO126; clear HO129; clear HK; clear HB; clear HI0; have HO_7 := n0_; have HO_116001 := n1_; have BK112 := n2_; have BK115 := n3_; have HO126 := n4_; have HO129 := n5_; have HK := n6_; have HB := n7_; have HI0 := n8_; clear n0_ n1_ n2_ n3_ n4_ n5_ n6_ n7_ n8_; (try clear hb); (try clear hb2); (try clear hk); (try clear hi)))
    go_loopg [9, 11] k1 (fun kq v9 v11 w' => ∃ (x9_2 : List Int) (x11_2 : Int) (x1001_2 : Int), v11 = .int .i64 x11_2 ∧ Aside0 (spec_l8Draw.l1 kq x7_1 x8_1 x9_2 t130 x11_2 s0_0 x1001_2 x116000_1 x116001_1 = some (r1, r2, r3, r4)) ∧ Aside0 (kq ≤ k1) ∧ Aside0 (Kd.R (Kd.int .i64) 3 w' w.heap.size (fun k_ => some k_ ≠ (v9 : Value).ownBlock) u7 x7_1) ∧ Aside0 (Kd.R (Kd.int .i64) 3 w' w.heap.size (fun k_ => some k_ ≠ (u7 : Value).ownBlock) v9 x9_2) ∧ Aside0 (Kd.R k56 56 w' w.heap.size (fun _ => True) u116001 x116001_1) ∧ Aside0 (w'.heap[gb112]? = some (.cells #[.int .i64 0, (.slice none 0 0)] 48 (0, 0))) ∧ Aside0 (w'.heap[gb115]? = some (.cells #[.int .i64 x116000_1, u116001] 48 (0, 0))) ∧ Aside0 (IsS121 w0 w' g s0_0 x1001_2) ∧ Aside0 (KeepBut w w' g none) ∧ Aside0 (Below w0.heap.size w0 w'))
    case atStart => exact ⟨(y124), (0), (t131), rsd, H', ⟨Nat.le_refl _⟩, ⟨by (with_reducible repeat first | apply rvA | apply rvN | apply rvD); exact Kd.R_mono HO_7.out (fun _ hk => hk.1.2)⟩, ⟨by (with_reducible repeat first | apply rvA | apply rvN | apply rvD); exact Kd.R_mono HO126.out (fun _ hk => hk.1.2)⟩, ⟨rvR HO_116001.out⟩, ⟨bvK BK112.out⟩, ⟨bvK BK115.out⟩, ⟨by repeat (first | (with_reducible first | exact HI0.out | apply IsS121.alloc | apply IsS121.drewN | apply IsS121.drew | apply IsS121.set_1 | refine IsS121.far ?_ NB0_112.out _ | refine IsS121.far ?_ NB0_115.out _) | exact HI0.out)⟩, ⟨by repeat (first | (with_reducible first | exact HK.out | apply KeepBut.set_ | apply keep_drewN | apply keep_drew | apply keep_alloc | refine keep_far ?_ GW112.out _ | refine keep_far ?_ GW115.out _) | exact HK.out)⟩, ⟨by repeat (first | (with_reducible first | exact HB.out | apply bwA | apply bwN | apply bwD | refine below_set ?_ (IsS121.ge HI0.out) | refine below_set ?_ GE112.out | refine below_set ?_ GE115.out) | exact HB.out)⟩⟩
    case round =>
     clear H'
     try clear c1
     try clear p2
     try clear p6
     try clear c7
     try clear c8
     try clear c9
     try clear c11
     try clear c17
     try clear c17b0
     try clear hcz10_0
     try clear hcz10_1
     try clear hfz10_0
     try clear hfz10_1
     try clear p2
     try clear p6
     obtain ⟨x9_2, x11_2, x1001_2, rfl, HA, HK2, HO_7, HO_9, HO_116001, BK112, BK115, HI0, HK, HB⟩ := hrel
     cases gk with
     | zero => exact absurd HA.out (by simp [spec_l8Draw.l1])
     | succ k2 =>
      have H := HA.out
      clear HA
      simp only [spec_l8Draw.l1] at H
      by_cases c25 : 0 ≤ x116000_1
      ·rw [if_pos c25] at H
       have c25b0 := eq_true c25
       have c25b1 : decide (0 ≤ x116000_1) = true := decide_eq_true c25
       clear c25
       obtain ⟨ji26, hji26⟩ : ∃ j_ : Int, (shl .i64 1 x116000_1) = j_ := ⟨_, rfl⟩
       replace H : (if x11_2 < (ji26) then ((spec_l40Rd_pick.f k2 s0_0 x1001_2 t130).bind fun bt132 => (if bt132.1 = 0 then (if x9_2.length < 17592186044416 then (spec_l8Draw.l1 k2 x7_1 x8_1 (x9_2 ++ [1]) t130 (wrap64 (x11_2 + 1)) s0_0 bt132.2 x116000_1 x116001_1) else (none)) else (if x9_2.length < 17592186044416 then (spec_l8Draw.l1 k2 x7_1 x8_1 (x9_2 ++ [0]) t130 (wrap64 (x11_2 + 1)) s0_0 bt132.2 x116000_1 x116001_1) else (none)))) else ((spec_l8Rows.f k2 x116000_1 x116001_1 x9_2 0).bind fun bt140 => (if x7_1.length < 17592186044416 then (spec_l8Draw.l0 k2 (x7_1 ++ [bt140.2.2]) (wrap64 (x8_1 - 1)) s0_0 x1001_2 bt140.1 bt140.2.1) else (none)))) = some (r1, r2, r3, r4) := by first | (rw [hji26] at H; exact H) | (simp only [hji26] at H ⊢; exact H)
       have hji26_ : (IntKind.i64.wrap (1 * 2 ^ min x116000_1.toNat 64)) = ji26 := hji26
       have hji26z : x116000_1 ≤ 64 → (IntKind.i64.wrap (1 * 2 ^ x116000_1.toNat)) = ji26 := shl_small hji26
       have hji26u : (IntKind.i64.wrap (2 ^ min x116000_1.toNat 64)) = ji26 := by have h_ := hji26_; rw [Int.one_mul] at h_; exact h_
       have hji26v : x116000_1 ≤ 64 → (IntKind.i64.wrap (2 ^ x116000_1.toNat)) = ji26 := fun hle_ => by have h_ := hji26z hle_; rw [Int.one_mul] at h_; exact h_
       have hji26y : (wrap64 (1 * 2 ^ min x116000_1.toNat 64)) = ji26 := (i64_w _).symm.trans hji26_
       have hji26x : x116000_1 ≤ 64 → (wrap64 (1 * 2 ^ x116000_1.toNat)) = ji26 := fun h_ => (i64_w _).symm.trans (hji26z h_)
       by_cases c27 : x11_2 < (ji26)
       ·rw [if_pos c27] at H
        have c27b0 : decide (x11_2 < (ji26)) = true := decide_eq_true c27
        clear c27
        replace H := Option.bind_eq_some_iff.mp H
        obtain ⟨⟨t132, t133⟩, A280, H⟩ := H
        replace H : (if t132 = 0 then (if x9_2.length < 17592186044416 then (spec_l8Draw.l1 k2 x7_1 x8_1 (x9_2 ++ [1]) t130 (wrap64 (x11_2 + 1)) s0_0 t133 x116000_1 x116001_1) else (none)) else (if x9_2.length < 17592186044416 then (spec_l8Draw.l1 k2 x7_1 x8_1 (x9_2 ++ [0]) t130 (wrap64 (x11_2 + 1)) s0_0 t133 x116000_1 x116001_1) else (none))) = some (r1, r2, r3, r4) := H
        have A28 := Aside0.mk A280
        clear A280
        by_cases c29 : t132 = 0
        ·rw [if_pos c29] at H
         have c29b0 : (t132 == 0) = true := beq_iff_eq.mpr c29
         have c29b1 : (t132 != 0) = false := bne_eq_false_iff_eq.mpr c29
         clear c29
         by_cases c30 : x9_2.length < 17592186044416
         ·rw [if_pos c30] at H
          have LMc30 := Aside0.mk c30
          clear c30
          obtain ⟨y134, hy134⟩ : ∃ y_ : List Int, y_ = (x9_2 ++ [1]) := ⟨_, rfl⟩
          replace H : (spec_l8Draw.l1 k2 x7_1 x8_1 y134 t130 (wrap64 (x11_2 + 1)) s0_0 t133 x116000_1 x116001_1) = some (r1, r2, r3, r4) := by first | (rw [hy134]; with_reducible exact H) | (have H2_ := (Option.bind_some _ _).symm.trans H; rw [hy134]; with_reducible exact H2_) | (have H2_ := (Option.bind_some _ _).symm.trans H; with_reducible exact H2_) | with_reducible exact H | (rw [hy134]; exact H) | exact H
          have Ny134 := Aside0.mk hy134
          clear hy134
          have H' := Aside0.mk H
          clear H
          have hnb31 := NB115_112.out
          have hnc31 := NB112_115.out
          have hnb32 := NB115_0.out
          have hnc32 := NB0_115.out
          have hcz33_0 : wr.cell? ⟨gb115, 0, none⟩ = some (.int .i64 x116000_1) := (blk_cell BK115.out 0).trans rfl
          have hcz33_1 : wr.cell? ⟨gb115, 1, none⟩ = some (u116001) := (blk_cell BK115.out 1).trans rfl
          have hfz33_0 := blk_frozen BK115.out 0
          have hfz33_1 := blk_frozen BK115.out 1
          go_wp2_with (first | ((with_reducible refine gate_callee (f := 79) rfl ?_); refine goesL_ (some 40) rfl rfl Try.func79 (by kernel_rfl) rfl #[.pointer (some ⟨g, 0, none⟩), .int .i64 t130] rfl lmB ?_; (with_reducible refine (spec_l40Rd_pick.calls k2 g s0_0 x1001_2 t130 t132 t133 w0 _ ?side1 ?side2 A28.out).mono ?_); (case side1 => repeat (first | (with_reducible first | exact HI0.out | apply IsS121.alloc | apply IsS121.drewN | apply IsS121.drew | apply IsS121.set_1 | refine IsS121.far ?_ NB0_112.out _ | refine IsS121.far ?_ NB0_115.out _) | exact HI0.out)); (case side2 => repeat (first | (with_reducible first | exact HB.out | apply bwA | apply bwN | apply bwD | refine below_set ?_ (IsS121.ge HI0.out) | refine below_set ?_ GE112.out | refine below_set ?_ GE115.out) | exact HB.out)); rintro e w34 ⟨rfl, hi, hb, hk⟩; refine ⟨_, rfl, ?_⟩; have n0_ := Aside0.mk (Kd.R_mono (Kd.R_keep (IsS121.apart (show IsS121 w0 _ g s0_0 x1001_2 from by repeat (first | (with_reducible first | exact HI0.out | apply IsS121.alloc | apply IsS121.drewN | apply IsS121.drew | apply IsS121.set_1 | refine IsS121.far ?_ NB0_112.out _ | refine IsS121.far ?_ NB0_115.out _) | exact HI0.out)) (rvR HO_7.out) (by decide)) hk (fun _ h => h.2)) (fun _ h => h.1)); have n1_ := Aside0.mk (Kd.R_mono (Kd.R_keep (IsS121.apart (show IsS121 w0 _ g s0_0 x1001_2 from by repeat (first | (with_reducible first | exact HI0.out | apply IsS121.alloc | apply IsS121.drewN | apply IsS121.drew | apply IsS121.set_1 | refine IsS121.far ?_ NB0_112.out _ | refine IsS121.far ?_ NB0_115.out _) | exact HI0.out)) (rvR HO_9.out) (by decide)) hk (fun _ h => h.2)) (fun _ h => h.1)); have n2_ := Aside0.mk (Kd.R_mono (Kd.R_keep (IsS121.apart (show IsS121 w0 _ g s0_0 x1001_2 from by repeat (first | (with_reducible first | exact HI0.out | apply IsS121.alloc | apply IsS121.drewN | apply IsS121.drew | apply IsS121.set_1 | refine IsS121.far ?_ NB0_112.out _ | refine IsS121.far ?_ NB0_115.out _) | exact HI0.out)) (rvR HO_116001.out) (by decide)) hk (fun _ h => h.2)) (fun _ h => h.1)); have n3_ := Aside0.mk (KeepBut.blk hk (g' := gb112) (o := .cells #[.int .i64 0, .slice none 0 0] 48 (0, 0)) (bvK BK112.out) NB112_0.out (by simp)); have n4_ := Aside0.mk (KeepBut.blk hk (g' := gb115) (o := .cells #[.int .i64 x116000_1, u116001] 48 (0, 0)) (bvK BK115.out) NB115_0.out (by simp)); have n5_ := Aside0.mk (KeepBut.trans (by repeat (first | (with_reducible first | exact HK.out | apply KeepBut.set_ | apply keep_drewN | apply keep_drew | apply keep_alloc | refine keep_far ?_ GW112.out _ | refine keep_far ?_ GW115.out _) | exact HK.out)) hk (.inl rfl)); have n6_ := Aside0.mk (hb); have n7_ := Aside0.mk (hi); clear HO_7; clear HO_9; clear HO_116001; clear BK112; clear BK115; clear HK; clear HB; clear HI0; have HO_7 := n0_; have HO_9 := n1_; have HO_116001 := n2_; have BK112 := n3_; have BK115 := n4_; have HK := n5_; have HB := n6_; have HI0 := n7_; clear n0_ n1_ n2_ n3_ n4_ n5_ n6_ n7_; (try clear hb); (try clear hb2); (try clear hk); (try clear hi)) | ((with_reducible refine gate_builtin (b := .append) (xs := #[.tmp 42, .tmp 43]) rfl ?_); at_builtin; refine Kd.R_append (Kd.int .i64) w.heap.size rfl (.tmp 42) (.tmp 43) 38 3 (.int .i64 0) 8 rfl Try.underlying38 info3 rfl (by decide) (by omega) u9 x9_2 1 [.int .i64 1] (fun k_ => some k_ ≠ (u7 : Value).ownBlock) (fun _ => False) rfl rfl ?aP (fun _ hk => hk.elim) ?aF ?aO (Below.refl _ _) ?aS ?aL ?_; (case aP => exact rfl); (case aF => exact (fun k_ hk => Kd.fresh' (Kd.R_lt (rvR HO_7.out)) k_ hk)); (case aO => exact (rvR HO_9.out)); (case aS => exact (keep_size (w := w) (g := g) (row := none) (by repeat (first | (with_reducible first | exact HK.out | apply KeepBut.set_ | apply keep_drewN | apply keep_drew | apply keep_alloc | refine keep_far ?_ GW112.out _ | refine keep_far ?_ GW115.out _) | exact HK.out)))); (case aL => have := LMc30.out; omega); intro v135 w35 ho hb hg hat; rw [← Ny134.out] at ho; have n0_ := Aside0.mk (Kd.R_after (ok := (fun _ => True)) (by (with_reducible repeat first | apply rvA | apply rvN | apply rvD); exact Kd.R_mono HO_7.out (fun _ hk => ⟨trivial, hk⟩)) hg hat); have n1_ := Aside0.mk (Kd.R_over' (rvR HO_116001.out) (Kd.R_typed (rvR HO_9.out)) (by decide) hg); have n2_ := Aside0.mk (blk_grown (g := gb112) (o := .cells #[.int .i64 0, .slice none 0 0] 48 (0, 0)) (bvK BK112.out) hg (Kd.R_ne HO_9.out BK112.out (by decide))); have n3_ := Aside0.mk (blk_grown (g := gb115) (o := .cells #[.int .i64 x116000_1, u116001] 48 (0, 0)) (bvK BK115.out) hg (Kd.R_ne HO_9.out BK115.out (by decide))); have n4_ := Aside0.mk (IsS121.grown (by repeat (first | (with_reducible first | exact HI0.out | apply IsS121.alloc | apply IsS121.drewN | apply IsS121.drew | apply IsS121.set_1 | refine IsS121.far ?_ NB0_112.out _ | refine IsS121.far ?_ NB0_115.out _) | exact HI0.out)) hg (IsS121.own_ne HI0.out HO_9.out (by decide))); have n5_ := Aside0.mk (below_weaken (by repeat (first | (with_reducible first | exact HB.out | apply bwA | apply bwN | apply bwD | refine below_set ?_ (IsS121.ge HI0.out) | refine below_set ?_ GE112.out | refine below_set ?_ GE115.out) | exact HB.out)) HL.out hb); have n6_ := Aside0.mk (KeepBut.trans (by repeat (first | (with_reducible first | exact HK.out | apply KeepBut.set_ | apply keep_drewN | apply keep_drew | apply keep_alloc | refine keep_far ?_ GW112.out _ | refine keep_far ?_ GW115.out _) | exact HK.out)) (KeepBut.of_grown hg g) (Kd.R_base2 HO_9.out)); have n7_ := Aside0.mk (ho); clear HO_7; clear HO_116001; clear BK112; clear BK115; clear HI0; clear HB; clear HK; clear HO_9; have HO_7 := n0_; have HO_116001 := n1_; have BK112 := n2_; have BK115 := n3_; have HI0 := n4_; have HB := n5_; have HK := n6_; have HO136 := n7_; clear n0_ n1_ n2_ n3_ n4_ n5_ n6_ n7_; clear ho hb hg hat))
          go_roundg k2
          case measure => have := HK1.out; have := HK2.out; omega
          case rel => exact ⟨(y134), (wrap64 (x11_2 + 1)), (t133), rsd, H', ⟨by have := HK1.out; have := HK2.out; omega⟩, ⟨by (with_reducible repeat first | apply rvA | apply rvN | apply rvD); exact Kd.R_mono HO_7.out (fun _ hk => hk.2)⟩, ⟨rvR HO136.out⟩, ⟨rvR HO_116001.out⟩, ⟨bvK BK112.out⟩, ⟨bvK BK115.out⟩, ⟨by repeat (first | (with_reducible first | exact HI0.out | apply IsS121.alloc | apply IsS121.drewN | apply IsS121.drew | apply IsS121.set_1 | refine IsS121.far ?_ NB0_112.out _ | refine IsS121.far ?_ NB0_115.out _) | exact HI0.out)⟩, ⟨by repeat (first | (with_reducible first | exact HK.out | apply KeepBut.set_ | apply keep_drewN | apply keep_drew | apply keep_alloc | refine keep_far ?_ GW112.out _ | refine keep_far ?_ GW115.out _) | exact HK.out)⟩, ⟨by repeat (first | (with_reducible first | exact HB.out | apply bwA | apply bwN | apply bwD | refine below_set ?_ (IsS121.ge HI0.out) | refine below_set ?_ GE112.out | refine below_set ?_ GE115.out) | exact HB.out)⟩⟩
         ·rw [if_neg c30] at H
          exact absurd H (by simp)
        ·rw [if_neg c29] at H
         have c29b0 : (t132 == 0) = false := beq_eq_false_iff_ne.mpr c29
         have c29b1 : (t132 != 0) = true := bne_iff_ne.mpr c29
         by_cases c36 : x9_2.length < 17592186044416
         ·rw [if_pos c36] at H
          have LMc36 := Aside0.mk c36
          clear c36
          obtain ⟨y137, hy137⟩ : ∃ y_ : List Int, y_ = (x9_2 ++ [0]) := ⟨_, rfl⟩
          replace H : (spec_l8Draw.l1 k2 x7_1 x8_1 y137 t130 (wrap64 (x11_2 + 1)) s0_0 t133 x116000_1 x116001_1) = some (r1, r2, r3, r4) := by first | (rw [hy137]; with_reducible exact H) | (have H2_ := (Option.bind_some _ _).symm.trans H; rw [hy137]; with_reducible exact H2_) | (have H2_ := (Option.bind_some _ _).symm.trans H; with_reducible exact H2_) | with_reducible exact H | (rw [hy137]; exact H) | exact H
          have Ny137 := Aside0.mk hy137
          clear hy137
          have H' := Aside0.mk H
          clear H
          have hnb37 := NB115_112.out
          have hnc37 := NB112_115.out
          have hnb38 := NB115_0.out
          have hnc38 := NB0_115.out
          have hcz39_0 : wr.cell? ⟨gb115, 0, none⟩ = some (.int .i64 x116000_1) := (blk_cell BK115.out 0).trans rfl
          have hcz39_1 : wr.cell? ⟨gb115, 1, none⟩ = some (u116001) := (blk_cell BK115.out 1).trans rfl
          have hfz39_0 := blk_frozen BK115.out 0
          have hfz39_1 := blk_frozen BK115.out 1
          go_wp2_with (first | ((with_reducible refine gate_callee (f := 79) rfl ?_); refine goesL_ (some 40) rfl rfl Try.func79 (by kernel_rfl) rfl #[.pointer (some ⟨g, 0, none⟩), .int .i64 t130] rfl lmB ?_; (with_reducible refine (spec_l40Rd_pick.calls k2 g s0_0 x1001_2 t130 t132 t133 w0 _ ?side1 ?side2 A28.out).mono ?_); (case side1 => repeat (first | (with_reducible first | exact HI0.out | apply IsS121.alloc | apply IsS121.drewN | apply IsS121.drew | apply IsS121.set_1 | refine IsS121.far ?_ NB0_112.out _ | refine IsS121.far ?_ NB0_115.out _) | exact HI0.out)); (case side2 => repeat (first | (with_reducible first | exact HB.out | apply bwA | apply bwN | apply bwD | refine below_set ?_ (IsS121.ge HI0.out) | refine below_set ?_ GE112.out | refine below_set ?_ GE115.out) | exact HB.out)); rintro e w40 ⟨rfl, hi, hb, hk⟩; refine ⟨_, rfl, ?_⟩; have n0_ := Aside0.mk (Kd.R_mono (Kd.R_keep (IsS121.apart (show IsS121 w0 _ g s0_0 x1001_2 from by repeat (first | (with_reducible first | exact HI0.out | apply IsS121.alloc | apply IsS121.drewN | apply IsS121.drew | apply IsS121.set_1 | refine IsS121.far ?_ NB0_112.out _ | refine IsS121.far ?_ NB0_115.out _) | exact HI0.out)) (rvR HO_7.out) (by decide)) hk (fun _ h => h.2)) (fun _ h => h.1)); have n1_ := Aside0.mk (Kd.R_mono (Kd.R_keep (IsS121.apart (show IsS121 w0 _ g s0_0 x1001_2 from by repeat (first | (with_reducible first | exact HI0.out | apply IsS121.alloc | apply IsS121.drewN | apply IsS121.drew | apply IsS121.set_1 | refine IsS121.far ?_ NB0_112.out _ | refine IsS121.far ?_ NB0_115.out _) | exact HI0.out)) (rvR HO_9.out) (by decide)) hk (fun _ h => h.2)) (fun _ h => h.1)); have n2_ := Aside0.mk (Kd.R_mono (Kd.R_keep (IsS121.apart (show IsS121 w0 _ g s0_0 x1001_2 from by repeat (first | (with_reducible first | exact HI0.out | apply IsS121.alloc | apply IsS121.drewN | apply IsS121.drew | apply IsS121.set_1 | refine IsS121.far ?_ NB0_112.out _ | refine IsS121.far ?_ NB0_115.out _) | exact HI0.out)) (rvR HO_116001.out) (by decide)) hk (fun _ h => h.2)) (fun _ h => h.1)); have n3_ := Aside0.mk (KeepBut.blk hk (g' := gb112) (o := .cells #[.int .i64 0, .slice none 0 0] 48 (0, 0)) (bvK BK112.out) NB112_0.out (by simp)); have n4_ := Aside0.mk (KeepBut.blk hk (g' := gb115) (o := .cells #[.int .i64 x116000_1, u116001] 48 (0, 0)) (bvK BK115.out) NB115_0.out (by simp)); have n5_ := Aside0.mk (KeepBut.trans (by repeat (first | (with_reducible first | exact HK.out | apply KeepBut.set_ | apply keep_drewN | apply keep_drew | apply keep_alloc | refine keep_far ?_ GW112.out _ | refine keep_far ?_ GW115.out _) | exact HK.out)) hk (.inl rfl)); have n6_ := Aside0.mk (hb); have n7_ := Aside0.mk (hi); clear HO_7; clear HO_9; clear HO_116001; clear BK112; clear BK115; clear HK; clear HB; clear HI0; have HO_7 := n0_; have HO_9 := n1_; have HO_116001 := n2_; have BK112 := n3_; have BK115 := n4_; have HK := n5_; have HB := n6_; have HI0 := n7_; clear n0_ n1_ n2_ n3_ n4_ n5_ n6_ n7_; (try clear hb); (try clear hb2); (try clear hk); (try clear hi)) | ((with_reducible refine gate_builtin (b := .append) (xs := #[.tmp 45, .tmp 46]) rfl ?_); at_builtin; refine Kd.R_append (Kd.int .i64) w.heap.size rfl (.tmp 45) (.tmp 46) 38 3 (.int .i64 0) 8 rfl Try.underlying38 info3 rfl (by decide) (by omega) u9 x9_2 0 [.int .i64 0] (fun k_ => some k_ ≠ (u7 : Value).ownBlock) (fun _ => False) rfl rfl ?aP (fun _ hk => hk.elim) ?aF ?aO (Below.refl _ _) ?aS ?aL ?_; (case aP => exact rfl); (case aF => exact (fun k_ hk => Kd.fresh' (Kd.R_lt (rvR HO_7.out)) k_ hk)); (case aO => exact (rvR HO_9.out)); (case aS => exact (keep_size (w := w) (g := g) (row := none) (by repeat (first | (with_reducible first | exact HK.out | apply KeepBut.set_ | apply keep_drewN | apply keep_drew | apply keep_alloc | refine keep_far ?_ GW112.out _ | refine keep_far ?_ GW115.out _) | exact HK.out)))); (case aL => have := LMc36.out; omega); intro v138 w41 ho hb hg hat; rw [← Ny137.out] at ho; have n0_ := Aside0.mk (Kd.R_after (ok := (fun _ => True)) (by (with_reducible repeat first | apply rvA | apply rvN | apply rvD); exact Kd.R_mono HO_7.out (fun _ hk => ⟨trivial, hk⟩)) hg hat); have n1_ := Aside0.mk (Kd.R_over' (rvR HO_116001.out) (Kd.R_typed (rvR HO_9.out)) (by decide) hg); have n2_ := Aside0.mk (blk_grown (g := gb112) (o := .cells #[.int .i64 0, .slice none 0 0] 48 (0, 0)) (bvK BK112.out) hg (Kd.R_ne HO_9.out BK112.out (by decide))); have n3_ := Aside0.mk (blk_grown (g := gb115) (o := .cells #[.int .i64 x116000_1, u116001] 48 (0, 0)) (bvK BK115.out) hg (Kd.R_ne HO_9.out BK115.out (by decide))); have n4_ := Aside0.mk (IsS121.grown (by repeat (first | (with_reducible first | exact HI0.out | apply IsS121.alloc | apply IsS121.drewN | apply IsS121.drew | apply IsS121.set_1 | refine IsS121.far ?_ NB0_112.out _ | refine IsS121.far ?_ NB0_115.out _) | exact HI0.out)) hg (IsS121.own_ne HI0.out HO_9.out (by decide))); have n5_ := Aside0.mk (below_weaken (by repeat (first | (with_reducible first | exact HB.out | apply bwA | apply bwN | apply bwD | refine below_set ?_ (IsS121.ge HI0.out) | refine below_set ?_ GE112.out | refine below_set ?_ GE115.out) | exact HB.out)) HL.out hb); have n6_ := Aside0.mk (KeepBut.trans (by repeat (first | (with_reducible first | exact HK.out | apply KeepBut.set_ | apply keep_drewN | apply keep_drew | apply keep_alloc | refine keep_far ?_ GW112.out _ | refine keep_far ?_ GW115.out _) | exact HK.out)) (KeepBut.of_grown hg g) (Kd.R_base2 HO_9.out)); have n7_ := Aside0.mk (ho); clear HO_7; clear HO_116001; clear BK112; clear BK115; clear HI0; clear HB; clear HK; clear HO_9; have HO_7 := n0_; have HO_116001 := n1_; have BK112 := n2_; have BK115 := n3_; have HI0 := n4_; have HB := n5_; have HK := n6_; have HO139 := n7_; clear n0_ n1_ n2_ n3_ n4_ n5_ n6_ n7_; clear ho hb hg hat))
          go_roundg k2
          case measure => have := HK1.out; have := HK2.out; omega
          case rel => exact ⟨(y137), (wrap64 (x11_2 + 1)), (t133), rsd, H', ⟨by have := HK1.out; have := HK2.out; omega⟩, ⟨by (with_reducible repeat first | apply rvA | apply rvN | apply rvD); exact Kd.R_mono HO_7.out (fun _ hk => hk.2)⟩, ⟨rvR HO139.out⟩, ⟨rvR HO_116001.out⟩, ⟨bvK BK112.out⟩, ⟨bvK BK115.out⟩, ⟨by repeat (first | (with_reducible first | exact HI0.out | apply IsS121.alloc | apply IsS121.drewN | apply IsS121.drew | apply IsS121.set_1 | refine IsS121.far ?_ NB0_112.out _ | refine IsS121.far ?_ NB0_115.out _) | exact HI0.out)⟩, ⟨by repeat (first | (with_reducible first | exact HK.out | apply KeepBut.set_ | apply keep_drewN | apply keep_drew | apply keep_alloc | refine keep_far ?_ GW112.out _ | refine keep_far ?_ GW115.out _) | exact HK.out)⟩, ⟨by repeat (first | (with_reducible first | exact HB.out | apply bwA | apply bwN | apply bwD | refine below_set ?_ (IsS121.ge HI0.out) | refine below_set ?_ GE112.out | refine below_set ?_ GE115.out) | exact HB.out)⟩⟩
         ·rw [if_neg c36] at H
          exact absurd H (by simp)
       ·rw [if_neg c27] at H
        have c27b0 : decide (x11_2 < (ji26)) = false := decide_eq_false c27
        clear c27
        replace H := Option.bind_eq_some_iff.mp H
        obtain ⟨⟨t140, t141, t144⟩, A420, H⟩ := H
        replace H : (if x7_1.length < 17592186044416 then (spec_l8Draw.l0 k2 (x7_1 ++ [t144]) (wrap64 (x8_1 - 1)) s0_0 x1001_2 t140 t141) else (none)) = some (r1, r2, r3, r4) := H
        have A42 := Aside0.mk A420
        clear A420
        by_cases c43 : x7_1.length < 17592186044416
        ·rw [if_pos c43] at H
         have LMc43 := Aside0.mk c43
         clear c43
         obtain ⟨y146, hy146⟩ : ∃ y_ : List Int, y_ = (x7_1 ++ [t144]) := ⟨_, rfl⟩
         replace H : (spec_l8Draw.l0 k2 y146 (wrap64 (x8_1 - 1)) s0_0 x1001_2 t140 t141) = some (r1, r2, r3, r4) := by first | (rw [hy146]; with_reducible exact H) | (have H2_ := (Option.bind_some _ _).symm.trans H; rw [hy146]; with_reducible exact H2_) | (have H2_ := (Option.bind_some _ _).symm.trans H; with_reducible exact H2_) | with_reducible exact H | (rw [hy146]; exact H) | exact H
         have Ny146 := Aside0.mk hy146
         clear hy146
         have H' := Aside0.mk H
         clear H
         have hnb44 := NB115_112.out
         have hnc44 := NB112_115.out
         have hnb45 := NB115_0.out
         have hnc45 := NB0_115.out
         have hcz46_0 : wr.cell? ⟨gb115, 0, none⟩ = some (.int .i64 x116000_1) := (blk_cell BK115.out 0).trans rfl
         have hcz46_1 : wr.cell? ⟨gb115, 1, none⟩ = some (u116001) := (blk_cell BK115.out 1).trans rfl
         have hfz46_0 := blk_frozen BK115.out 0
         have hfz46_1 := blk_frozen BK115.out 1
         obtain ⟨Ao47, co47, eo47⟩ := Kd.R_slice HO_116001.out
         subst eo47
         obtain ⟨Ao48, co48, eo48⟩ := Kd.R_slice HO_9.out
         subst eo48
         go_wp2_with (first | ((with_reducible refine gate_callee (f := 126) rfl ?_); refine goesL_ (some 51) rfl rfl Try.func126 (by kernel_rfl) rfl #[.agg #[.int .i64 x116000_1, .slice Ao47 x116001_1.length co47], .slice Ao48 x9_2.length co48, .int .i64 0] rfl lmB ?_; (with_reducible refine (spec_l8Rows.calls k2 x116000_1 (fun k_ => some k_ = (.slice Ao47 x116001_1.length co47 : Value).ownBlock) (.slice Ao47 x116001_1.length co47) x116001_1 _ _ x9_2 0 t140 t141 t144 w0 _ ?side1 ?side2 ?side3 ?side4 A42.out).mono ?_); (case side1 => repeat (first | (with_reducible first | exact HB.out | apply bwA | apply bwN | apply bwD | refine below_set ?_ (IsS121.ge HI0.out) | refine below_set ?_ GE112.out | refine below_set ?_ GE115.out) | exact HB.out)); (case side2 => exact Kd.R_lower (Kd.R_tight rfl HO_116001.out) HL.out); (case side3 => exact Kd.C_kept_own ((Kd.R_apart' HO_9.out (Kd.R_typed HO_116001.out) (by decide))) (fun k_ hk_ hs_ => (hk_.2) hs_)); (case side4 => exact (Kd.R_reads' HO_9.out).2.1); rintro e w49 ⟨v142, rfl, ho0, hb, hkp⟩; refine ⟨_, rfl, ?_⟩; have n0_ := Aside0.mk (Kd.R_mono (ok' := fun k_ => some k_ ≠ (.slice Ao48 x9_2.length co48 : Value).ownBlock) (Kd.R_keptB ((Kd.R_apart' HO_7.out (Kd.R_typed HO_116001.out) (by decide))) hkp (fun k_ hk_ hs_ => (hk_.2) hs_)) (fun k_ hk_ => hk_.1.1)); have n1_ := Aside0.mk (Kd.R_mono (ok' := fun k_ => some k_ ≠ (u7 : Value).ownBlock) (Kd.R_keptB ((Kd.R_apart' HO_9.out (Kd.R_typed HO_116001.out) (by decide))) hkp (fun k_ hk_ hs_ => (hk_.2) hs_)) (fun k_ hk_ => hk_.1.1)); have n2_ := Aside0.mk (blk_kept (bvK BK112.out) hkp (fun hs_ => (fun e_ => (Kd.R_ne HO_116001.out BK112.out (by decide)) e_) hs_)); have n3_ := Aside0.mk (blk_kept (bvK BK115.out) hkp (fun hs_ => (fun e_ => (Kd.R_ne HO_116001.out BK115.out (by decide)) e_) hs_)); have n4_ := Aside0.mk (IsS121.kept (by repeat (first | (with_reducible first | exact HI0.out | apply IsS121.alloc | apply IsS121.drewN | apply IsS121.drew | apply IsS121.set_1 | refine IsS121.far ?_ NB0_112.out _ | refine IsS121.far ?_ NB0_115.out _) | exact HI0.out)) hkp (fun hs_ => (fun e_ => (IsS121.own_ne HI0.out HO_116001.out (by decide)) e_) hs_)); have n5_ := Aside0.mk (Kd.R_mono (ok' := fun k_ => True) (Kd.R_raise (d := k56) (b := w0.heap.size) (b' := w.heap.size) (fun _ _ _ _ h_ => h_) ho0 (fun k_ e_ => Or.elim (ho0.1 k_ e_) (fun hs_ => (fun e_ => Kd.R_base HO_116001.out k_ e_.symm) hs_) (fun hn_ => Nat.le_trans (keep_size (w := w) (g := g) (row := none) (by repeat (first | (with_reducible first | exact HK.out | apply KeepBut.set_ | apply keep_drewN | apply keep_drew | apply keep_alloc | refine keep_far ?_ GW112.out _ | refine keep_far ?_ GW115.out _) | exact HK.out))) hn_))) (fun k_ hk_ => trivial)); have n6_ := Aside0.mk (Kept.keepG (by repeat (first | (with_reducible first | exact HK.out | apply KeepBut.set_ | apply keep_drewN | apply keep_drew | apply keep_alloc | refine keep_far ?_ GW112.out _ | refine keep_far ?_ GW115.out _) | exact HK.out)) hkp (fun k_ hs_ => (fun e_ => .inr (Kd.R_base HO_116001.out k_ e_.symm)) hs_)); have n7_ := Aside0.mk (hb); clear HO_7; clear HO_9; clear BK112; clear BK115; clear HI0; clear HK; clear HB; clear HO_116001; have HO_7 := n0_; have HO_9 := n1_; have BK112 := n2_; have BK115 := n3_; have HI0 := n4_; have HO143 := n5_; have HK := n6_; have HB := n7_; clear n0_ n1_ n2_ n3_ n4_ n5_ n6_ n7_; (try clear hb); (try clear hkp); (try clear ho0)) | ((with_reducible refine gate_dst (N := 12) rfl ?_); refine box_event ?hg (N := 12) ?hd (cs := #[.int .i64 0, .slice none 0 0]) (t := 48) ?hr ?_; (case hd => rfl); (case hg => rfl); (case hr => first | (go_simp; done) | (go_simp; rfl)); intro gb145 hg w50 hbox hb; have n0_ := Aside0.mk (Kd.R_below (rvR HO_7.out) hb); have n1_ := Aside0.mk (Kd.R_below (rvR HO_9.out) hb); have n2_ := Aside0.mk (Kd.R_below (rvR HO143.out) hb); have n3_ := Aside0.mk (blk_below (g := gb112) (o := .cells #[.int .i64 0, .slice none 0 0] 48 (0, 0)) (bvK BK112.out) hb); have n4_ := Aside0.mk (blk_below (g := gb115) (o := .cells #[.int .i64 x116000_1, .slice Ao47 x116001_1.length co47] 48 (0, 0)) (bvK BK115.out) hb); have n5_ := Aside0.mk (IsS121.below (by repeat (first | (with_reducible first | exact HI0.out | apply IsS121.alloc | apply IsS121.drewN | apply IsS121.drew | apply IsS121.set_1 | refine IsS121.far ?_ NB0_112.out _ | refine IsS121.far ?_ NB0_115.out _) | exact HI0.out)) hb); have n6_ := Aside0.mk (KeepBut.trans (by repeat (first | (with_reducible first | exact HK.out | apply KeepBut.set_ | apply keep_drewN | apply keep_drew | apply keep_alloc | refine keep_far ?_ GW112.out _ | refine keep_far ?_ GW115.out _) | exact HK.out)) (KeepBut.of_below hb g none) (.inl rfl)); have n7_ := Aside0.mk (below_step (by repeat (first | (with_reducible first | exact HB.out | apply bwA | apply bwN | apply bwD | refine below_set ?_ (IsS121.ge HI0.out) | refine below_set ?_ GE112.out | refine below_set ?_ GE115.out) | exact HB.out)) hb); have n8_ := Aside0.mk (hbox); have n9_ := Aside0.mk ((by rw [hg]; exact (keep_size (w := w) (g := g) (row := none) (by repeat (first | (with_reducible first | exact HK.out | apply KeepBut.set_ | apply keep_drewN | apply keep_drew | apply keep_alloc | refine keep_far ?_ GW112.out _ | refine keep_far ?_ GW115.out _) | exact HK.out))) : w.heap.size ≤ gb145)); have n10_ := Aside0.mk ((Nat.le_trans HW0.out (by rw [hg]; exact (keep_size (w := w) (g := g) (row := none) (by repeat (first | (with_reducible first | exact HK.out | apply KeepBut.set_ | apply keep_drewN | apply keep_drew | apply keep_alloc | refine keep_far ?_ GW112.out _ | refine keep_far ?_ GW115.out _) | exact HK.out))) : w.heap.size ≤ gb145) : w0.heap.size ≤ gb145)); have n11_ := Aside0.mk ((by rw [hg]; exact Nat.ne_of_lt (blk_lt (g := gb112) (o := .cells #[.int .i64 0, .slice none 0 0] 48 (0, 0)) (bvK BK112.out)) : gb112 ≠ gb145)); have n12_ := Aside0.mk ((by rw [hg]; exact Nat.ne_of_gt (blk_lt (g := gb112) (o := .cells #[.int .i64 0, .slice none 0 0] 48 (0, 0)) (bvK BK112.out)) : gb145 ≠ gb112)); have n13_ := Aside0.mk ((by rw [hg]; exact Nat.ne_of_lt (blk_lt (g := gb115) (o := .cells #[.int .i64 x116000_1, .slice Ao47 x116001_1.length co47] 48 (0, 0)) (bvK BK115.out)) : gb115 ≠ gb145)); have n14_ := Aside0.mk ((by rw [hg]; exact Nat.ne_of_gt (blk_lt (g := gb115) (o := .cells #[.int .i64 x116000_1, .slice Ao47 x116001_1.length co47] 48 (0, 0)) (bvK BK115.out)) : gb145 ≠ gb115)); have n15_ := Aside0.mk ((by rw [hg]; exact Nat.ne_of_lt (IsS121.lt (show IsS121 w0 _ g s0_0 x1001_2 from by repeat (first | (with_reducible first | exact HI0.out | apply IsS121.alloc | apply IsS121.drewN | apply IsS121.drew | apply IsS121.set_1 | refine IsS121.far ?_ NB0_112.out _ | refine IsS121.far ?_ NB0_115.out _) | exact HI0.out))) : g ≠ gb145)); have n16_ := Aside0.mk ((by rw [hg]; exact Nat.ne_of_gt (IsS121.lt (show IsS121 w0 _ g s0_0 x1001_2 from by repeat (first | (with_reducible first | exact HI0.out | apply IsS121.alloc | apply IsS121.drewN | apply IsS121.drew | apply IsS121.set_1 | refine IsS121.far ?_ NB0_112.out _ | refine IsS121.far ?_ NB0_115.out _) | exact HI0.out))) : gb145 ≠ g)); clear HO_7; clear HO_9; clear HO143; clear BK112; clear BK115; clear HI0; clear HK; clear HB; have HO_7 := n0_; have HO_9 := n1_; have HO143 := n2_; have BK112 := n3_; have BK115 := n4_; have HI0 := n5_; have HK := n6_; have HB := n7_; have BK145 := n8_; have GW145 := n9_; have GE145 := n10_; have NB112_145 := n11_; have NB145_112 := n12_; have NB115_145 := n13_; have NB145_115 := n14_; have NB0_145 := n15_; have NB145_0 := n16_; clear n0_ n1_ n2_ n3_ n4_ n5_ n6_ n7_ n8_ n9_ n10_ n11_ n12_ n13_ n14_ n15_ n16_; clear hb hbox hg; have hnb51 := NB145_112.out; have hnc51 := NB112_145.out; have hnb52 := NB145_115.out; have hnc52 := NB115_145.out; have hnb53 := NB145_0.out; have hnc53 := NB0_145.out; have hcz54_0 : w50.cell? ⟨gb145, 0, none⟩ = some (.int .i64 0) := (blk_cell BK145.out 0).trans rfl; have hcz54_1 : w50.cell? ⟨gb145, 1, none⟩ = some (.slice none 0 0) := (blk_cell BK145.out 1).trans rfl; have hfz54_0 := blk_frozen BK145.out 0; have hfz54_1 := blk_frozen BK145.out 1; obtain ⟨Ao55, co55, eo55⟩ := Kd.R_slice HO143.out; subst eo55; have hcz56_0 : w50.cell? ⟨gb115, 0, none⟩ = some (.int .i64 x116000_1) := (blk_cell BK115.out 0).trans rfl; have hcz56_1 : w50.cell? ⟨gb115, 1, none⟩ = some (.slice Ao47 x116001_1.length co47) := (blk_cell BK115.out 1).trans rfl; have hfz56_0 := blk_frozen BK115.out 0; have hfz56_1 := blk_frozen BK115.out 1) | ((with_reducible refine gate_builtin (b := .append) (xs := #[.tmp 55, .tmp 57]) rfl ?_); at_builtin; refine Kd.R_append (Kd.int .i64) w.heap.size rfl (.tmp 55) (.tmp 57) 38 3 (.int .i64 0) 8 rfl Try.underlying38 info3 rfl (by decide) (by omega) u7 x7_1 t144 [.int .i64 t144] (fun k_ => some k_ ≠ (.slice Ao48 x9_2.length co48 : Value).ownBlock) (fun _ => False) rfl (by first | (go_simp; done) | (go_simp; rfl)) ?aP (fun _ hk => hk.elim) ?aF ?aO (Below.refl _ _) ?aS ?aL ?_; (case aP => exact rfl); (case aF => exact (fun k_ hk => Kd.fresh' (Kd.R_lt (by (with_reducible repeat first | apply rvA | apply rvN | apply rvD); exact (Kd.R_mono (Kd.R_mono (Kd.R_far (p := ⟨gb115, 1, none⟩) (Kd.R_far (p := ⟨gb115, 0, none⟩) (Kd.R_far (p := ⟨gb145, 1, none⟩) (Kd.R_far (p := ⟨gb145, 0, none⟩) (Kd.R_types (Kd.R_types HO_9.out BK145.out (by decide)) BK115.out (by decide)) (fun _ hk => hk.1.2) (.int .i64 t140)) (fun _ hk => hk.1.2) (.slice Ao55 t141.length co55)) (fun _ hk => hk.2) (.int .i64 t140)) (fun _ hk => hk.2) (.slice Ao55 t141.length co55)) (fun _ h_ => h_.1)) (fun _ h_ => h_.1)))) k_ hk)); (case aO => exact (by (with_reducible repeat first | apply rvA | apply rvN | apply rvD); exact Kd.R_mono (Kd.R_far (p := ⟨gb115, 1, none⟩) (Kd.R_far (p := ⟨gb115, 0, none⟩) (Kd.R_far (p := ⟨gb145, 1, none⟩) (Kd.R_far (p := ⟨gb145, 0, none⟩) (Kd.R_types (Kd.R_types HO_7.out BK145.out (by decide)) BK115.out (by decide)) (fun _ hk => hk.1.2) (.int .i64 t140)) (fun _ hk => hk.1.2) (.slice Ao55 t141.length co55)) (fun _ hk => hk.2) (.int .i64 t140)) (fun _ hk => hk.2) (.slice Ao55 t141.length co55)) (fun _ hk => hk.1.1))); (case aS => exact (keep_size (w := w) (g := g) (row := none) (by repeat (first | (with_reducible first | exact HK.out | apply KeepBut.set_ | apply keep_drewN | apply keep_drew | apply keep_alloc | refine keep_far ?_ GW112.out _ | refine keep_far ?_ GW115.out _ | refine keep_far ?_ GW145.out _) | exact HK.out)))); (case aL => have := LMc43.out; omega); intro v147 w57 ho hb hg hat; rw [← Ny146.out] at ho; have n0_ := Aside0.mk (Kd.R_after (ok := (fun _ => True)) (by (with_reducible repeat first | apply rvA | apply rvN | apply rvD); exact Kd.R_mono (Kd.R_far (p := ⟨gb115, 1, none⟩) (Kd.R_far (p := ⟨gb115, 0, none⟩) (Kd.R_far (p := ⟨gb145, 1, none⟩) (Kd.R_far (p := ⟨gb145, 0, none⟩) (Kd.R_types (Kd.R_types HO_9.out BK145.out (by decide)) BK115.out (by decide)) (fun _ hk => hk.1.2) (.int .i64 t140)) (fun _ hk => hk.1.2) (.slice Ao55 t141.length co55)) (fun _ hk => hk.2) (.int .i64 t140)) (fun _ hk => hk.2) (.slice Ao55 t141.length co55)) (fun _ hk => ⟨trivial, hk.1.1⟩)) hg hat); have n1_ := Aside0.mk (blk_grown (g := gb112) (o := .cells #[.int .i64 0, .slice none 0 0] 48 (0, 0)) (by (with_reducible repeat first | apply bkN | apply bkD | apply bkA); refine blk_far ?_ NB112_115.out _; (with_reducible repeat first | apply bkN | apply bkD | apply bkA); refine blk_far ?_ NB112_115.out _; (with_reducible repeat first | apply bkN | apply bkD | apply bkA); refine blk_far ?_ NB112_145.out _; (with_reducible repeat first | apply bkN | apply bkD | apply bkA); refine blk_far ?_ NB112_145.out _; (with_reducible repeat first | apply bkN | apply bkD | apply bkA); exact BK112.out) hg (Kd.R_ne HO_7.out BK112.out (by decide))); have n2_ := Aside0.mk (blk_grown (g := gb115) (o := .cells #[.int .i64 t140, .slice Ao55 t141.length co55] 48 (0, 0)) (by (with_reducible repeat first | apply bkN | apply bkD | apply bkA); refine blk_put (cs := #[.int .i64 t140, .slice Ao47 x116001_1.length co47]) ?_ 1 _ rfl; (with_reducible repeat first | apply bkN | apply bkD | apply bkA); refine blk_put (cs := #[.int .i64 x116000_1, .slice Ao47 x116001_1.length co47]) ?_ 0 _ rfl; (with_reducible repeat first | apply bkN | apply bkD | apply bkA); refine blk_far ?_ NB115_145.out _; (with_reducible repeat first | apply bkN | apply bkD | apply bkA); refine blk_far ?_ NB115_145.out _; (with_reducible repeat first | apply bkN | apply bkD | apply bkA); exact BK115.out) hg (Kd.R_ne HO_7.out BK115.out (by decide))); have n3_ := Aside0.mk (IsS121.grown (by first | (with_reducible exact IsS121.alloc (IsS121.far (IsS121.far (IsS121.far (IsS121.far (HI0.out) NB0_145.out _) NB0_145.out _) NB0_115.out _) NB0_115.out _) _) | (with_reducible exact IsS121.far (IsS121.far (IsS121.far (IsS121.far (HI0.out) NB0_145.out _) NB0_145.out _) NB0_115.out _) NB0_115.out _) | (repeat (first | (with_reducible first | exact HI0.out | apply IsS121.alloc | apply IsS121.drewN | apply IsS121.drew | apply IsS121.set_1 | refine IsS121.far ?_ NB0_112.out _ | refine IsS121.far ?_ NB0_115.out _ | refine IsS121.far ?_ NB0_145.out _) | exact HI0.out))) hg (IsS121.own_ne HI0.out HO_7.out (by decide))); have n4_ := Aside0.mk (Kd.R_over' (by (with_reducible repeat first | apply rvA | apply rvN | apply rvD); exact (Kd.R_mono (Kd.R_mono (Kd.R_far (p := ⟨gb115, 1, none⟩) (Kd.R_far (p := ⟨gb115, 0, none⟩) (Kd.R_far (p := ⟨gb145, 1, none⟩) (Kd.R_far (p := ⟨gb145, 0, none⟩) (Kd.R_types (Kd.R_types HO143.out BK145.out (by decide)) BK115.out (by decide)) (fun _ hk => hk.1.2) (.int .i64 t140)) (fun _ hk => hk.1.2) (.slice Ao55 t141.length co55)) (fun _ hk => hk.2) (.int .i64 t140)) (fun _ hk => hk.2) (.slice Ao55 t141.length co55)) (fun _ h_ => h_.1)) (fun _ h_ => h_.1))) (Kd.R_typed (by (with_reducible repeat first | apply rvA | apply rvN | apply rvD); exact (Kd.R_mono (Kd.R_mono (Kd.R_far (p := ⟨gb115, 1, none⟩) (Kd.R_far (p := ⟨gb115, 0, none⟩) (Kd.R_far (p := ⟨gb145, 1, none⟩) (Kd.R_far (p := ⟨gb145, 0, none⟩) (Kd.R_types (Kd.R_types HO_7.out BK145.out (by decide)) BK115.out (by decide)) (fun _ hk => hk.1.2) (.int .i64 t140)) (fun _ hk => hk.1.2) (.slice Ao55 t141.length co55)) (fun _ hk => hk.2) (.int .i64 t140)) (fun _ hk => hk.2) (.slice Ao55 t141.length co55)) (fun _ h_ => h_.1)) (fun _ h_ => h_.1)))) (by decide) hg); have n5_ := Aside0.mk (blk_grown (g := gb145) (o := .cells #[.int .i64 t140, .slice Ao55 t141.length co55] 48 (0, 0)) (by (with_reducible repeat first | apply bkN | apply bkD | apply bkA); refine blk_far ?_ NB145_115.out _; (with_reducible repeat first | apply bkN | apply bkD | apply bkA); refine blk_far ?_ NB145_115.out _; (with_reducible repeat first | apply bkN | apply bkD | apply bkA); refine blk_put (cs := #[.int .i64 t140, .slice none 0 0]) ?_ 1 _ rfl; (with_reducible repeat first | apply bkN | apply bkD | apply bkA); refine blk_put (cs := #[.int .i64 0, .slice none 0 0]) ?_ 0 _ rfl; (with_reducible repeat first | apply bkN | apply bkD | apply bkA); exact BK145.out) hg (Kd.R_ne HO_7.out BK145.out (by decide))); have n6_ := Aside0.mk (below_weaken (by repeat (first | (with_reducible first | exact HB.out | apply bwA | apply bwN | apply bwD | refine below_set ?_ (IsS121.ge HI0.out) | refine below_set ?_ GE112.out | refine below_set ?_ GE115.out | refine below_set ?_ GE145.out) | exact HB.out)) HL.out hb); have n7_ := Aside0.mk (KeepBut.trans (by repeat (first | (with_reducible first | exact HK.out | apply KeepBut.set_ | apply keep_drewN | apply keep_drew | apply keep_alloc | refine keep_far ?_ GW112.out _ | refine keep_far ?_ GW115.out _ | refine keep_far ?_ GW145.out _) | exact HK.out)) (KeepBut.of_grown hg g) (Kd.R_base2 HO_7.out)); have n8_ := Aside0.mk (ho); clear HO_9; clear BK112; clear BK115; clear HI0; clear HO143; clear BK145; clear HB; clear HK; clear HO_7; have HO_9 := n0_; have BK112 := n1_; have BK115 := n2_; have HI0 := n3_; have HO143 := n4_; have BK145 := n5_; have HB := n6_; have HK := n7_; have HO148 := n8_; clear n0_ n1_ n2_ n3_ n4_ n5_ n6_ n7_ n8_; clear ho hb hg hat))
         go_roundg k2
         case measure => have := HK1.out; have := HK2.out; omega
         case rel => exact ⟨(y146), (wrap64 (x8_1 - 1)), (x1001_2), (t140), (t141), (.slice Ao55 t141.length co55), rsd, H', ⟨by have := HK1.out; have := HK2.out; omega⟩, ⟨by (with_reducible repeat first | apply rvA | apply rvN | apply rvD); exact Kd.R_mono HO148.out (fun _ hk => trivial)⟩, ⟨rvR HO143.out⟩, ⟨bvK BK112.out⟩, ⟨bvK BK115.out⟩, ⟨by first | (with_reducible exact IsS121.alloc (IsS121.far (IsS121.far (IsS121.far (IsS121.far (HI0.out) NB0_145.out _) NB0_145.out _) NB0_115.out _) NB0_115.out _) _) | (with_reducible exact IsS121.far (IsS121.far (IsS121.far (IsS121.far (HI0.out) NB0_145.out _) NB0_145.out _) NB0_115.out _) NB0_115.out _) | (repeat (first | (with_reducible first | exact HI0.out | apply IsS121.alloc | apply IsS121.drewN | apply IsS121.drew | apply IsS121.set_1 | refine IsS121.far ?_ NB0_112.out _ | refine IsS121.far ?_ NB0_115.out _ | refine IsS121.far ?_ NB0_145.out _) | exact HI0.out))⟩, ⟨by repeat (first | (with_reducible first | exact HK.out | apply KeepBut.set_ | apply keep_drewN | apply keep_drew | apply keep_alloc | refine keep_far ?_ GW112.out _ | refine keep_far ?_ GW115.out _ | refine keep_far ?_ GW145.out _) | exact HK.out)⟩, ⟨by repeat (first | (with_reducible first | exact HB.out | apply bwA | apply bwN | apply bwD | refine below_set ?_ (IsS121.ge HI0.out) | refine below_set ?_ GE112.out | refine below_set ?_ GE115.out | refine below_set ?_ GE145.out) | exact HB.out)⟩⟩
        ·rw [if_neg c43] at H
         exact absurd H (by simp)
      ·rw [if_neg c25] at H
       exact absurd H (by simp)
   ·rw [if_neg c17] at H
    have c17b0 : decide (0 < x8_1) = false := decide_eq_false c17
    clear c17
    simp only [Option.some.injEq, Prod.mk.injEq] at H
    obtain ⟨rfl, rfl, rfl, rfl⟩ := H
    have hnb58 := NB115_112.out
    have hnc58 := NB112_115.out
    have hnb59 := NB115_0.out
    have hnc59 := NB0_115.out
    have hcz60_0 : wr.cell? ⟨gb115, 0, none⟩ = some (.int .i64 x116000_1) := (blk_cell BK115.out 0).trans rfl
    have hcz60_1 : wr.cell? ⟨gb115, 1, none⟩ = some (u116001) := (blk_cell BK115.out 1).trans rfl
    have hfz60_0 := blk_frozen BK115.out 0
    have hfz60_1 := blk_frozen BK115.out 1
    have hnb61 := NB112_0.out
    have hnc61 := NB0_112.out
    have hcz62_0 : wr.cell? ⟨gb112, 0, none⟩ = some (.int .i64 0) := (blk_cell BK112.out 0).trans rfl
    have hcz62_1 : wr.cell? ⟨gb112, 1, none⟩ = some (.slice none 0 0) := (blk_cell BK112.out 1).trans rfl
    have hfz62_0 := blk_frozen BK112.out 0
    have hfz62_1 := blk_frozen BK112.out 1
    obtain ⟨Ao63, co63, eo63⟩ := Kd.R_slice HO_116001.out
    subst eo63
    go_wp2
    refine bodyPost_ret (results_ct rfl _ _ gb112 48 #[.int .i64 x116000_1, .slice Ao63 x116001_1.length co63] (0, 0) _ rfl (by (with_reducible repeat first | apply bkN | apply bkD | apply bkA); refine blk_put (cs := #[.int .i64 x116000_1, .slice none 0 0]) ?_ 1 _ rfl; (with_reducible repeat first | apply bkN | apply bkD | apply bkA); refine blk_put (cs := #[.int .i64 0, .slice none 0 0]) ?_ 0 _ rfl; (with_reducible repeat first | apply bkN | apply bkD | apply bkA); exact BK112.out) Try.underlying48 rfl (by kernel_rfl)) rfl ?_
    exact ⟨_, _, ers, by (with_reducible repeat first | apply rvA | apply rvN | apply rvD); exact Kd.R_mono (Kd.R_far (p := ⟨gb112, 1, none⟩) (Kd.R_far (p := ⟨gb112, 0, none⟩) (Kd.R_types HO_116001.out BK112.out (by decide)) (fun _ hk => hk.2) (.int .i64 x116000_1)) (fun _ hk => hk.2) (.slice Ao63 x116001_1.length co63)) (fun _ hk => trivial), by (with_reducible repeat first | apply rvA | apply rvN | apply rvD); exact Kd.R_mono (Kd.R_far (p := ⟨gb112, 1, none⟩) (Kd.R_far (p := ⟨gb112, 0, none⟩) (Kd.R_types HO_7.out BK112.out (by decide)) (fun _ hk => hk.2) (.int .i64 x116000_1)) (fun _ hk => hk.2) (.slice Ao63 x116001_1.length co63)) (fun _ hk => trivial), by repeat (first | (with_reducible first | exact HI0.out | apply IsS121.alloc | apply IsS121.drewN | apply IsS121.drew | apply IsS121.set_1 | refine IsS121.far ?_ NB0_112.out _ | refine IsS121.far ?_ NB0_115.out _) | exact HI0.out), by repeat (first | (with_reducible first | exact HB.out | apply bwA | apply bwN | apply bwD | refine below_set ?_ (IsS121.ge HI0.out) | refine below_set ?_ GE112.out | refine below_set ?_ GE115.out) | exact HB.out), by repeat (first | (with_reducible first | exact HK.out | apply KeepBut.set_ | apply keep_drewN | apply keep_drew | apply keep_alloc | refine keep_far ?_ GW112.out _ | refine keep_far ?_ GW115.out _) | exact HK.out)⟩

end Go.Proofs.Ytpcckoljocpchaa.QFnReorderBack
