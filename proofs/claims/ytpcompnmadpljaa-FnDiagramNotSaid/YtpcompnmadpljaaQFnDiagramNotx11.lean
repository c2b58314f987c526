-- Written by a program of this session (mk.py). Lean checks it.
import Derived.Test.YtpcompnmadpljaaQFnDiagramNotx0
import Derived.Test.YtpcompnmadpljaaQFnDiagramNotx2
import Derived.Test.YtpcompnmadpljaaQFnDiagramNotx7
import Derived.Test.YtpcompnmadpljaaQFnDiagramNotx10
namespace Go.Proofs.Ytpcompnmadpljaa.QFnDiagramNot
open Go.RowKit Go.Proofs.YtpcompnmadpljaaW.PrintWords Go.Proofs.YtpcompnmadpljaaW.PrintLast Go.Proofs.YtpcompnmadpljaaW.PrintMore
attribute [local go_sem] max2_int min2_int max_two min_two max_three min_three max_four min_four   -- for this text's walks alone
set_option linter.unusedVariables false
set_option linter.unusedSimpArgs false

/-! ### spec_l8Do: function 104 -/
def spec_l8Do.row (a b : Int) : List Int := [wrap64 (a * b), wrap64 ((wrap64 (wrap64 (a + b) + 1)).tdiv 2), (wrap64 (a + b)).tmod 2]
def spec_l8Do.val (op a b : Int) : Int := rd (spec_l8Do.row a b) op
def spec_l8Do.f : Nat → Int → List S71 → Int → Int → Int → Option (Int × List S71 × Int)
 | 0, _, _, _, _, _ => none
 | k + 1, a0, l, op, a, b =>
  if a < 2 ∧ b < 2 then (if 0 ≤ op ∧ op < 3 then some (a0, l, spec_l8Do.val op a b) else none)
  else if op = 0 ∧ (a = 0 ∨ b = 0) then some (a0, l, 0)
  else if op = 1 ∧ (a = 1 ∨ b = 1) then some (a0, l, 1)
  else (spec_l8Var.f a0 l a).bind fun v1 => (spec_l8Var.f a0 l b).bind fun v2 =>
   (spec_l8At.f a0 l a (if v2 < v1 then v2 else v1) 0).bind fun x => (spec_l8At.f a0 l b (if v2 < v1 then v2 else v1) 0).bind fun y => (spec_l8Do.f k a0 l op x y).bind fun p1 =>
   if p1.2.2 < 0 then some (a0, l, -1) else
   (spec_l8At.f a0 l a (if v2 < v1 then v2 else v1) 1).bind fun x2 => (spec_l8At.f a0 l b (if v2 < v1 then v2 else v1) 1).bind fun y2 => (spec_l8Do.f k p1.1 p1.2.1 op x2 y2).bind fun p2 =>
   spec_l8Add.f p2.1 p2.2.1 (if v2 < v1 then v2 else v1) p1.2.2 p2.2.2
theorem spec_l8Do.le : ∀ (k : Nat) (a0 : Int) (l : List S71) (op a b : Int), LeO (spec_l8Do.f k a0 l op a b) (spec_l8Do.f (k + 1) a0 l op a b)
 | 0 => fun _ _ _ _ _ r h => by simp [spec_l8Do.f] at h
 | k + 1 => fun a0 l op a b => by
  have ih := spec_l8Do.le k
  rw [spec_l8Do.f, spec_l8Do.f]
  refine LeO.ite (LeO.refl _) (LeO.ite (LeO.refl _) (LeO.ite (LeO.refl _) (LeO.bind (LeO.refl _) (fun v1 => LeO.bind (LeO.refl _) (fun v2 => LeO.bind (LeO.refl _) (fun x => LeO.bind (LeO.refl _) (fun y => LeO.bind (ih _ _ _ _ _) (fun p1 => LeO.ite (LeO.refl _) (LeO.bind (LeO.refl _) (fun x2 => LeO.bind (LeO.refl _) (fun y2 => LeO.bind (ih _ _ _ _ _) (fun p2 => LeO.refl _))))))))))))
theorem spec_l8Do.mono : ∀ a0 l op a b k, LeO (spec_l8Do.f k a0 l op a b) (spec_l8Do.f (k + 1) a0 l op a b) := fun a0 l op a b k => spec_l8Do.le k a0 l op a b
def spec_l8Do.T2 : Bool × List (List Nat × List Nat) := (true, [([], []), ([], []), ([], []), ([1, 2], [1, 2]), ([], []), ([], []), ([4, 5], [4, 5]), ([6], [6]), ([7], [7]), ([], []), ([], []), ([9, 10], [9, 10]), ([11], [11]), ([3, 8, 12], [3, 8, 12]), ([], []), ([13, 14], [13, 14]), ([15], [15]), ([0, 0], [0]), ([16, 17, 0, 1, 2, 3, 4, 5, 6, 7, 8, 9, 10, 11, 12, 13, 14, 15, 16, 17], [16])])
def spec_l8Do.B2 : List Nat := [0, 0, 0, 6, 0, 0, 48, 112, 240, 0, 0, 1536, 3584, 8190, 0, 32766, 65534, 1, 262143]
theorem spec_l8Do.tab2 : rtab .any (opsOf Try.f104 2) = spec_l8Do.T2 := by kernel_rfl
theorem spec_l8Do.bits2 : waitsOk spec_l8Do.T2.2 spec_l8Do.B2 = true := by kernel_rfl
def spec_l8Do.T10 : Bool × List (List Nat × List Nat) := (true, [([], []), ([], []), ([], []), ([], []), ([], []), ([2, 3, 4], [2, 3, 4]), ([], []), ([], []), ([], []), ([6, 7, 8, 5], [6, 7, 8]), ([0, 1, 5, 9, 9], [0, 1, 5, 9]), ([10], [10]), ([11], [11]), ([11], [11]), ([], []), ([14, 12, 10, 0, 1, 2, 3, 4, 5, 6, 7, 8, 9, 10, 11, 12, 14], [12, 14]), ([13, 15, 0, 1, 2, 3, 4, 5, 6, 7, 8, 9, 10, 11, 12, 13, 14, 15], [13])])
def spec_l8Do.B10 : List Nat := [0, 0, 0, 0, 0, 28, 0, 0, 0, 508, 1023, 2047, 4095, 4095, 0, 24575, 65535]
theorem spec_l8Do.tab10 : rtab .any (opsOf Try.f104 10) = spec_l8Do.T10 := by kernel_rfl
theorem spec_l8Do.bits10 : waitsOk spec_l8Do.T10.2 spec_l8Do.B10 = true := by kernel_rfl
def spec_l8Do.T13 : Bool × List (List Nat × List Nat) := (true, [([], []), ([], []), ([], []), ([], []), ([], []), ([2, 3, 4], [2, 3, 4]), ([], []), ([], []), ([], []), ([6, 7, 8, 5], [6, 7, 8]), ([0, 1, 5, 9, 9], [0, 1, 5, 9]), ([10], [10]), ([11], [11]), ([11], [11]), ([], []), ([14, 12, 10, 0, 1, 2, 3, 4, 5, 6, 7, 8, 9, 10, 11, 12, 14], [12, 14]), ([13, 15, 0, 1, 2, 3, 4, 5, 6, 7, 8, 9, 10, 11, 12, 13, 14, 15], [13])])
def spec_l8Do.B13 : List Nat := [0, 0, 0, 0, 0, 28, 0, 0, 0, 508, 1023, 2047, 4095, 4095, 0, 24575, 65535]
theorem spec_l8Do.tab13 : rtab .any (opsOf Try.f104 13) = spec_l8Do.T13 := by kernel_rfl
theorem spec_l8Do.bits13 : waitsOk spec_l8Do.T13.2 spec_l8Do.B13 = true := by kernel_rfl
theorem spec_l8Do.stays_set {base : Nat} {w w1 : World} {v v1 : Value} {xs ys : List S71} {g j : Nat} {cs : Array Value} {u : Value} (h : Ap.Stays k71 71 base w v xs w1 v1 ys) (hb : w1.heap[g]? = some (.cells cs 25 (0, 0))) : Ap.Stays k71 71 base w v xs (w1.setCell ⟨g, j, none⟩ u) v1 ys := fun ok0 u0 xs0 h0 hp => by
 obtain ⟨q1, q2⟩ := h ok0 u0 xs0 h0 hp
 exact ⟨Kd.R_set q1 hb (by decide) j u, q2⟩
theorem spec_l8Do.own_ne {base : Nat} {w : World} {ok : Nat → Prop} {v : Value} {xs : List S71} {g : Nat} {cs : Array Value} (h : Kd.R k71 71 w base ok v xs) (hb : w.heap[g]? = some (.cells cs 25 (0, 0))) : ¬ v.ownBlock = some g := fun e => Kd.R_ne h hb (by decide) e.symm
set_option maxHeartbeats 16000000 in
set_option maxRecDepth 100000 in
theorem spec_l8Do.core : ∀ (k : Nat) (a0 : Int) (u : Value) (l : List S71) (op a b r1 : Int) (r2 : List S71) (r3 : Int) (w0 w : World) (_ : Below w0.heap.size w0 w) (_ : Kd.R k71 71 w w0.heap.size (fun k_ => u.ownBlock = some k_) u l) (_ : spec_l8Do.f k a0 l op a b = some (r1, r2, r3)),
  Calls Try.prog 104 #[.agg #[.int .i64 a0, u], .int .i64 op, .int .i64 a, .int .i64 b] w fun e w' => ∃ v1 : Value, e = .returned (.tuple #[.agg #[.int .i64 r1, v1], .int .i64 r3]) ∧ Kd.R k71 71 w' w0.heap.size (fun k_ => u.ownBlock = some k_ ∨ w.heap.size ≤ k_) v1 r2 ∧ Below w0.heap.size w0 w' ∧ Kept w w' (fun k_ => u.ownBlock = some k_) ∧ Ap.Stays k71 71 w0.heap.size w u l w' v1 r2
 | 0 => fun _ _ _ _ _ _ _ _ _ _ _ _ _ h => by simp [spec_l8Do.f] at h
 | k + 1 => fun a0 u l op a b r1 r2 r3 w0 w hB ho h => by
  have IH := Aside0.mk (spec_l8Do.core k)
  have hu25 := Try.underlying25
  have hu71 := Try.underlying71
  obtain ⟨A, c, rfl⟩ := Kd.R_slice ho
  have HR := Aside0.mk ho
  have HB := Aside0.mk hB
  rw [spec_l8Do.f] at h
  have H := Aside0.mk h
  clear hB ho h
  go_enter Try.func104, Try.ntmps104
  go_upto_region 1 with (first | ((with_reducible refine gate_dst (N := 4) rfl ?_); refine box_event ?hg (N := 4) ?hd (cs := #[.int .i64 a0, .slice A l.length c]) (t := 25) ?hr ?_; (case hd => rfl); (case hg => rfl); (case hr => first | (go_simp; done) | (go_simp; rfl)); intro g0 hg0 w1 hbox hb; have BD1 := Aside0.mk hbox; have HB1 := Aside0.mk hb; have GD := Aside0.mk (show w.heap.size ≤ g0 from Nat.le_of_eq hg0.symm); clear hg0 hbox hb) | ((with_reducible refine gate_dst (N := 8) rfl ?_); refine box_event ?hg (N := 8) ?hd (cs := #[.int .i64 0, .slice none 0 0]) (t := 25) ?hr ?_; (case hd => rfl); (case hg => rfl); (case hr => first | (go_simp; done) | (go_simp; rfl)); intro gr hgr w2 hbox hb; have GR := Aside0.mk (show w.heap.size ≤ gr by rw [hgr]; exact HB1.out.size); have BR2 := Aside0.mk hbox; have GRD := Aside0.mk (show gr ≠ g0 from fun e_ => by have := blk_lt BD1.out; omega); have BD2 := Aside0.mk (blk_below BD1.out hb); have HB2 := Aside0.mk (below_step HB1.out hb); clear hgr hbox hb))
  go_cut [20] from 15 to 20 (fun s20 wx => ∃ q : Bool, s20 = .bool q ∧ Aside0 (q = decide (a < 2 ∧ b < 2)) ∧ w2 = wx)
  case first =>
   by_cases x1 : a < 2
   ·have e1 : decide (a < 2) = true := decide_eq_true x1
    by_cases x2 : b < 2
    ·have e2 : decide (b < 2) = true := decide_eq_true x2
     have e3 : decide (a < 2 ∧ b < 2) = true := decide_eq_true ⟨x1, x2⟩
     clear x1 x2
     go_wp2
     go_meet
     case rel => exact ⟨_, rfl, ⟨e3.symm⟩, rfl⟩
    ·have e2 : decide (b < 2) = false := decide_eq_false x2
     have e3 : decide (a < 2 ∧ b < 2) = false := decide_eq_false (fun h_ => x2 h_.2)
     clear x1 x2
     go_wp2
     go_meet
     case rel => exact ⟨_, rfl, ⟨e3.symm⟩, rfl⟩
   ·have e1 : decide (a < 2) = false := decide_eq_false x1
    have e3 : decide (a < 2 ∧ b < 2) = false := decide_eq_false (fun h_ => x1 h_.1)
    clear x1
    go_wp2
    go_meet
    case rel => exact ⟨_, rfl, ⟨e3.symm⟩, rfl⟩
  case rest =>
  obtain ⟨q1, rfl, HQ1, rfl⟩ := hcut
  by_cases c1 : a < 2 ∧ b < 2
  ·obtain rfl : q1 = true := HQ1.out.trans (decide_eq_true c1)
   have H1 := H.out
   rw [if_pos c1] at H1
   by_cases c2 : 0 ≤ op ∧ op < 3
   ·rw [if_pos c2] at H1
    simp only [Option.some.injEq, Prod.mk.injEq] at H1
    obtain ⟨rfl, rfl, rfl⟩ := H1
    have C2 := Aside0.mk c2
    have o1 : decide (0 ≤ op) = true := decide_eq_true c2.1
    have o2 : decide (op < 3) = true := decide_eq_true c2.2
    clear c1 c2 H
    go_upto_region 2 with fail
    refine start_ (n := 19) (S := fun w' => True) (ds := []) (Pt.bm 19 0) (by kernel_rfl) rfl rfl trivial (fun hHeld => ?_)
    refine with_tabW spec_l8Do.tab2 spec_l8Do.bits2 (fun HT_ HW_ => ?_)
    have BD3 := Aside0.mk (blk_drew BD2.out)
    have BR3 := Aside0.mk (blk_drew BR2.out)
    have HB3 := Aside0.mk (below_drew1 HB2.out)
    clear BD2 BR2 HB2 hHeld
    generalize w2.drew = w3 at BD3 BR3 HB3 ⊢
    refine Pt.pu 1 (some 22) (Pt.bm 19 2) (by kernel_rfl) ?_
    refine Pt.pu 2 (some 23) (Pt.bm 19 6) (by kernel_rfl) ?_
    refine Pt.pu 3 (some 24) (Pt.bm 19 14) (by kernel_rfl) ?_
    refine Pt.pu 4 (some 25) (Pt.bm 19 30) (by kernel_rfl) ?_
    refine Pt.pu 5 (some 26) (Pt.bm 19 62) (by kernel_rfl) ?_
    refine Pt.pu 6 (some 27) (Pt.bm 19 126) (by kernel_rfl) ?_
    refine Pt.pu 7 (some 28) (Pt.bm 19 254) (by kernel_rfl) ?_
    refine Pt.pu 8 (some 29) (Pt.bm 19 510) (by kernel_rfl) ?_
    refine Pt.pu 9 (some 30) (Pt.bm 19 1022) (by kernel_rfl) ?_
    refine Pt.pu 10 (some 31) (Pt.bm 19 2046) (by kernel_rfl) ?_
    refine Pt.pu 11 (some 32) (Pt.bm 19 4094) (by kernel_rfl) ?_
    refine Pt.pu 12 (some 33) (Pt.bm 19 8190) (by kernel_rfl) ?_
    refine Pt.pu 14 (some 35) (Pt.bm 19 24574) (by kernel_rfl) ?_
    obtain ⟨vv, hvv⟩ : ∃ vv, rd (spec_l8Do.row a b) op = vv := ⟨_, rfl⟩
    have VV := Aside0.mk hvv
    clear hvv
    refine inv_at [0, 13, 15, 16, 17, 18] (fun a0_ b_ a' w' => ∃ (v13 m15 : Value), a' = putSel a0_ b_ [(0, 21, .agg #[.int .i64 a0, .slice A l.length c]), (13, 34, v13), (15, 36, m15), (16, 37, .int .i64 vv), (18, 9, .int .i64 vv)] ∧ w'.heap[g0]? = some (.cells #[.int .i64 a0, .slice A l.length c] 25 (0, 0)) ∧ (b_ 17 = false → w'.heap[gr]? = some (.cells #[.int .i64 0, .slice none 0 0] 25 (0, 0))) ∧ (b_ 17 = true → w'.heap[gr]? = some (.cells #[.int .i64 a0, .slice A l.length c] 25 (0, 0))) ∧ Below w.heap.size w w' ∧ (b_ 13 = true → Kd.R (Kd.int .i64) 3 w' w.heap.size (fun _ => True) v13 (spec_l8Do.row a b)) ∧ (b_ 15 = true → ∃ ad co, v13 = .slice (some ad) 3 co ∧ m15 = .pointer (some (ad.add op.toNat)))) HT_.out HW_.out (by kernel_rfl) (by kernel_rfl) ?_ ?_ ?_
    ·exact ⟨.bool false, .bool false, by simp only [putSel, Bool.false_eq_true, if_false], BD3.out, fun _ => BR3.out, fun h_ => absurd h_ (by decide), HB3.out, fun h_ => absurd h_ (by decide), fun h_ => absurd h_ (by decide)⟩
    ·clear BD3 BR3 HB3
     refine steps_cons ?_ ?_
     ·rintro b_ a' w' ⟨v13, m15, ha, Q_D, Q_Z, Q_F, Q_B, Q_L, Q_P⟩ hb_ hon hoff
      refine ⟨_, rfl, fun K hK => ?_⟩
      have e4 : a'.tmps[4]? = some (.pointer (some ⟨g0, 0, none⟩)) := by rw [ha]; exact (putSel_off rfl).trans rfl
      replace ha := Aside0.mk ha
      have hc0_ : w'.cell? ⟨g0, 0, none⟩ = some (.int .i64 a0) := (blk_cell Q_D 0).trans rfl
      have hc1_ : w'.cell? ⟨g0, 1, none⟩ = some (.slice A l.length c) := (blk_cell Q_D 1).trans rfl
      refine value_ (w1 := w') (v := .agg #[.int .i64 a0, .slice A l.length c]) (by rfl) rfl ?_ ?_
      ·go_simp
       (try simp only [i64_w])
       try rfl
      exact hK.out _ _ ⟨v13, m15, (by rw [ha.out]; exact putSel_upk 0 hb_ rfl rfl rfl), Q_D, Q_Z, Q_F, Q_B, Q_L, Q_P⟩
     refine steps_cons ?_ ?_
     ·rintro b_ a' w' ⟨v13, m15, ha, Q_D, Q_Z, Q_F, Q_B, Q_L, Q_P⟩ hb_ hon hoff
      refine ⟨_, rfl, fun K hK => ?_⟩
      have e24 : a'.tmps[24]? = some (.int .i64 (wrap64 (a * b))) := by rw [ha]; exact (putSel_off rfl).trans rfl
      have e29 : a'.tmps[29]? = some (.int .i64 (wrap64 ((wrap64 (wrap64 (a + b) + 1)).tdiv 2))) := by rw [ha]; exact (putSel_off rfl).trans rfl
      have e33 : a'.tmps[33]? = some (.int .i64 ((wrap64 (a + b)).tmod 2)) := by rw [ha]; exact (putSel_off rfl).trans rfl
      have QB := Aside0.mk Q_B
      have QD := Aside0.mk Q_D
      replace ha := Aside0.mk ha
      refine Kd.R_lit_step (Kd.int .i64) w.heap.size 3 (w0 := w) ?hg (N := 34) ?hd (xs := spec_l8Do.row a b) (inner := [.int .i64 (wrap64 (a * b)), .int .i64 (wrap64 ((wrap64 (wrap64 (a + b) + 1)).tdiv 2)), .int .i64 ((wrap64 (a + b)).tmod 2)]) (ok := fun _ => True) (okp := fun _ => True) ?hr ?hp (fun _ hk => hk) trivial Q_B Q_B.size (by simp [spec_l8Do.row]) ?_; (case hd => rfl); (case hg => rfl); (case hr => first | (go_simp; done) | (go_simp; rfl)); (case hp => exact (Reps.one (show Kd.M (Kd.int .i64) _ _ _ _ [.int .i64 (wrap64 (a * b))] from rfl) (Reps.one (show Kd.M (Kd.int .i64) _ _ _ _ [.int .i64 (wrap64 ((wrap64 (wrap64 (a + b) + 1)).tdiv 2))] from rfl) (Reps.one (show Kd.M (Kd.int .i64) _ _ _ _ [.int .i64 ((wrap64 (a + b)).tmod 2)] from rfl) (Reps.none _ _)))))
      intro v1 w17 ho18 hb hg_ hnew_
      have hne0 := blk_lt Q_D
      exact hK.out _ _ ⟨v1, m15, (by rw [ha.out]; exact putSel_upk 1 hb_ rfl rfl rfl), blk_grown Q_D hg_ (by simp), fun h_ => blk_grown (Q_Z h_) hg_ (by simp), fun h_ => blk_grown (Q_F h_) hg_ (by simp), hb, fun _ => ho18, fun h_ => absurd (hoff 15 (by kernel_rfl)) (by simpa [up] using h_)⟩
     refine steps_cons ?_ ?_
     ·rintro b_ a' w' ⟨v13, m15, ha, Q_D, Q_Z, Q_F, Q_B, Q_L, Q_P⟩ hb_ hon hoff
      refine ⟨_, rfl, fun K hK => ?_⟩
      have L13 := Q_L (hon 13 (by kernel_rfl))
      obtain ⟨A20, co20, e20⟩ := Kd.R_slice L13
      replace e20 : v13 = .slice A20 3 co20 := e20
      subst e20
      obtain ⟨ad, eA, hx⟩ := Kd.at_int (Kd.R_reads' (n := 3) L13).2.2 op C2.out.1 C2.out.2
      subst eA
      have e34 : a'.tmps[34]? = some (.slice (some ad) 3 co20) := by rw [ha]; exact putSel_on (e := (13, 34, .slice (some ad) 3 co20)) 1 rfl rfl (hon 13 (by kernel_rfl)) rfl
      have e35 : a'.tmps[35]? = some (.int .i64 op) := by rw [ha]; exact (putSel_off rfl).trans rfl
      replace ha := Aside0.mk ha
      have HX := Aside0.mk hx
      clear hx
      refine value_ (w1 := w') (v := .pointer (some (ad.add op.toNat))) (by rfl) rfl ?_ ?_
      ·go_simp
       (try exact fun h_ => absurd (h_ C2.out.1) (by have := C2.out.2; omega))
       (try simp only [i64_w])
       try rfl
      exact hK.out _ _ ⟨.slice (some ad) 3 co20, .pointer (some (ad.add op.toNat)), (by rw [ha.out]; exact putSel_upk 2 hb_ rfl rfl rfl), Q_D, Q_Z, Q_F, Q_B, Q_L, fun _ => ⟨ad, co20, rfl, rfl⟩⟩
     refine steps_cons ?_ ?_
     ·rintro b_ a' w' ⟨v13, m15, ha, Q_D, Q_Z, Q_F, Q_B, Q_L, Q_P⟩ hb_ hon hoff
      refine ⟨_, rfl, fun K hK => ?_⟩
      obtain ⟨ad, co, rfl, rfl⟩ := Q_P (hon 15 (by kernel_rfl))
      obtain ⟨ad2, eA, hx⟩ := Kd.at_int (Kd.R_reads' (n := 3) (Q_L (hon 13 (by kernel_rfl)))).2.2 op C2.out.1 C2.out.2
      cases eA
      rw [VV.out] at hx
      have e36 : a'.tmps[36]? = some (.pointer (some (ad.add op.toNat))) := by rw [ha]; exact putSel_on (e := (15, 36, .pointer (some (ad.add op.toNat)))) 2 rfl rfl (hon 15 (by kernel_rfl)) rfl
      replace ha := Aside0.mk ha
      refine value_ (w1 := w') (v := .int .i64 vv) (by rfl) rfl ?_ ?_
      ·go_simp
       (try simp only [i64_w])
       try rfl
      exact hK.out _ _ ⟨_, _, (by rw [ha.out]; exact putSel_upk 3 hb_ rfl rfl rfl), Q_D, Q_Z, Q_F, Q_B, Q_L, Q_P⟩
     refine steps_cons ?_ ?_
     ·rintro b_ a' w' ⟨v13, m15, ha, Q_D, Q_Z, Q_F, Q_B, Q_L, Q_P⟩ hb_ hon hoff
      refine ⟨_, rfl, fun K hK => ?_⟩
      have Z17 := Q_Z hb_
      have e8 : a'.tmps[8]? = some (.pointer (some ⟨gr, 0, none⟩)) := by rw [ha]; exact (putSel_off rfl).trans rfl
      have e21 : a'.tmps[21]? = some (.agg #[.int .i64 a0, .slice A l.length c]) := by rw [ha]; exact putSel_on (e := (0, 21, .agg #[.int .i64 a0, .slice A l.length c])) 0 rfl rfl (hon 0 (by kernel_rfl)) rfl
      replace ha := Aside0.mk ha
      have hs0 : w'.cell? ⟨gr, 0, none⟩ = some (.int .i64 0) := (blk_cell Z17 0).trans rfl
      have hs1 : w'.cell? ⟨gr, 1, none⟩ = some (.slice none 0 0) := (blk_cell Z17 1).trans rfl
      have hf0 := blk_frozen Z17 0
      have hf1 := blk_frozen Z17 1
      have QD := Aside0.mk Q_D
      have QB := Aside0.mk Q_B
      have QZ := Aside0.mk Z17
      refine skip_ (w1 := ?_) (by rfl) rfl ?_ ?_
      rotate_left
      ·go_simp
       rfl
      exact hK.out _ _ ⟨v13, m15, (by rw [ha.out]; exact putSel_none (v := undef) rfl), blk_far (p := ⟨gr, 1, none⟩) (blk_far (p := ⟨gr, 0, none⟩) Q_D GRD.out.symm _) GRD.out.symm _, fun h_ => absurd ((up_self b_ 17).symm.trans h_) (by decide), fun _ => blk_put (blk_put Z17 0 _ rfl) 1 _ rfl, below_set (below_set Q_B GR.out) GR.out, fun h_ => Kd.R_set (Kd.R_set (Q_L h_) Z17 (by decide) 0 _) (blk_put Z17 0 _ rfl) (by decide) 1 _, Q_P⟩
     refine steps_cons ?_ ?_
     ·rintro b_ a' w' ⟨v13, m15, ha, Q_D, Q_Z, Q_F, Q_B, Q_L, Q_P⟩ hb_ hon hoff
      refine ⟨_, rfl, fun K hK => ?_⟩
      have e37 : a'.tmps[37]? = some (.int .i64 vv) := by rw [ha]; exact putSel_on (e := (16, 37, .int .i64 vv)) 3 rfl rfl (hon 16 (by kernel_rfl)) rfl
      replace ha := Aside0.mk ha
      refine value_ (w1 := w') (v := .int .i64 vv) (by rfl) rfl ?_ ?_
      ·go_simp
       (try simp only [i64_w])
       try rfl
      exact hK.out _ _ ⟨v13, m15, (by rw [ha.out]; exact putSel_upk 4 hb_ rfl rfl rfl), Q_D, Q_Z, Q_F, Q_B, Q_L, Q_P⟩
     exact steps_nil
    rintro b_ a' w5 hall ⟨v13, m15, ha, Q_D, Q_Z, Q_F, Q_B, Q_L, Q_P⟩
    have hb0_ := hall 0 (by kernel_rfl)
    have hb1_ := hall 13 (by kernel_rfl)
    have hb2_ := hall 15 (by kernel_rfl)
    have hb3_ := hall 16 (by kernel_rfl)
    have hb4_ := hall 17 (by kernel_rfl)
    have hb5_ := hall 18 (by kernel_rfl)
    subst ha
    simp only [putSel, hb0_, hb1_, hb2_, hb3_, hb4_, hb5_, if_true, Act.put, List.setIfInBounds_toArray, List.set_cons_zero, List.set_cons_succ]
    have BF := Aside0.mk (Q_F hb4_)
    have HE := Aside0.mk Q_B
    clear hall hb0_ hb1_ hb2_ hb3_ hb4_ hb5_ Q_D Q_Z Q_F Q_B Q_L Q_P BD3 BR3 HB3
    try go_wp2
    refine bodyPost_ret (results_ct rfl _ _ gr 25 #[.int .i64 a0, .slice A l.length c] (0, 0) _ rfl BF.out Try.underlying25 rfl (by kernel_rfl)) rfl ?_
    exact ⟨_, by rw [show spec_l8Do.val op a b = vv from VV.out]; rfl, Kd.R_below (Kd.R_mono HR.out (fun _ hk => .inl hk)) HE.out, below_then HB.out HB.out.size HE.out, Kept.of_below HE.out _, Ap.Stays.refl HE.out⟩
   ·rw [if_neg c2] at H1
    cases H1
  obtain rfl : q1 = false := HQ1.out.trans (decide_eq_false c1)
  have H1 := H.out
  rw [if_neg c1] at H1
  clear c1 H
  have H := Aside0.mk H1
  clear H1
  go_upto_region 3 with fail
  go_cut [47] from 38 to 47 (fun sq wx => ∃ q : Bool, sq = .bool q ∧ Aside0 (q = decide (op = 0 ∧ (a = 0 ∨ b = 0))) ∧ w2 = wx)
  case first =>
   by_cases x1 : op = 0
   ·have e1 : (op == 0) = true := beq_iff_eq.mpr x1
    by_cases x2 : a = 0
    ·have e2 : (a == 0) = true := beq_iff_eq.mpr x2
     have e3 : decide (op = 0 ∧ (a = 0 ∨ b = 0)) = true := decide_eq_true ⟨x1, .inl x2⟩
     have E3 := Aside0.mk e3
     clear x1 x2 e3
     go_wp2
     go_meet
     case rel => exact ⟨_, rfl, ⟨E3.out.symm⟩, rfl⟩
    ·have e2 : (a == 0) = false := beq_eq_false_iff_ne.mpr x2
     by_cases x3 : b = 0
     ·have e4 : (b == 0) = true := beq_iff_eq.mpr x3
      have e3 : decide (op = 0 ∧ (a = 0 ∨ b = 0)) = true := decide_eq_true ⟨x1, .inr x3⟩
      have E3 := Aside0.mk e3
      clear x1 x2 x3 e3
      go_wp2
      go_meet
      case rel => exact ⟨_, rfl, ⟨E3.out.symm⟩, rfl⟩
     ·have e4 : (b == 0) = false := beq_eq_false_iff_ne.mpr x3
      have e3 : decide (op = 0 ∧ (a = 0 ∨ b = 0)) = false := decide_eq_false (fun h_ => h_.2.elim x2 x3)
      have E3 := Aside0.mk e3
      clear x1 x2 x3 e3
      go_wp2
      go_meet
      case rel => exact ⟨_, rfl, ⟨E3.out.symm⟩, rfl⟩
   ·have e1 : (op == 0) = false := beq_eq_false_iff_ne.mpr x1
    have e3 : decide (op = 0 ∧ (a = 0 ∨ b = 0)) = false := decide_eq_false (fun h_ => x1 h_.1)
    have E3 := Aside0.mk e3
    clear x1 e3
    go_wp2
    go_meet
    case rel => exact ⟨_, rfl, ⟨E3.out.symm⟩, rfl⟩
  case rest =>
  obtain ⟨q3, rfl, HQ3, rfl⟩ := hcut
  by_cases c3 : op = 0 ∧ (a = 0 ∨ b = 0)
  ·obtain rfl : q3 = true := HQ3.out.trans (decide_eq_true c3)
   have H1 := H.out
   rw [if_pos c3] at H1
   simp only [Option.some.injEq, Prod.mk.injEq] at H1
   obtain ⟨rfl, rfl, rfl⟩ := H1
   clear c3 H
   have d20 : w2.cell? ⟨g0, 0, none⟩ = some (.int .i64 a0) := (blk_cell BD2.out 0).trans rfl
   have d21 : w2.cell? ⟨g0, 1, none⟩ = some (.slice A l.length c) := (blk_cell BD2.out 1).trans rfl
   have r20 : w2.cell? ⟨gr, 0, none⟩ = some (.int .i64 0) := (blk_cell BR2.out 0).trans rfl
   have r21 : w2.cell? ⟨gr, 1, none⟩ = some (.slice none 0 0) := (blk_cell BR2.out 1).trans rfl
   have q20 := blk_frozen BR2.out 0
   have q21 := blk_frozen BR2.out 1
   go_wp2
   have HE := below_set (below_set HB2.out GR.out (j := 0) (v := .int .i64 a0)) GR.out (j := 1) (v := .slice A l.length c)
   refine bodyPost_ret (results_ct rfl _ _ gr 25 #[.int .i64 a0, .slice A l.length c] (0, 0) _ rfl (blk_put (blk_put BR2.out 0 _ rfl) 1 _ rfl) Try.underlying25 rfl (by kernel_rfl)) rfl ?_
   exact ⟨_, rfl, Kd.R_below (Kd.R_mono HR.out (fun _ hk => .inl hk)) HE, below_then HB.out HB.out.size HE, Kept.of_below HE _, Ap.Stays.refl HE⟩
  obtain rfl : q3 = false := HQ3.out.trans (decide_eq_false c3)
  have H1 := H.out
  rw [if_neg c3] at H1
  clear c3 H
  have H := Aside0.mk H1
  clear H1
  go_upto_region 5 with fail
  go_cut [58] from 49 to 58 (fun sq wx => ∃ q : Bool, sq = .bool q ∧ Aside0 (q = decide (op = 1 ∧ (a = 1 ∨ b = 1))) ∧ w2 = wx)
  case first =>
   by_cases x1 : op = 1
   ·have e1 : (op == 1) = true := beq_iff_eq.mpr x1
    by_cases x2 : a = 1
    ·have e2 : (a == 1) = true := beq_iff_eq.mpr x2
     have e3 : decide (op = 1 ∧ (a = 1 ∨ b = 1)) = true := decide_eq_true ⟨x1, .inl x2⟩
     have E3 := Aside0.mk e3
     clear x1 x2 e3
     go_wp2
     go_meet
     case rel => exact ⟨_, rfl, ⟨E3.out.symm⟩, rfl⟩
    ·have e2 : (a == 1) = false := beq_eq_false_iff_ne.mpr x2
     by_cases x3 : b = 1
     ·have e4 : (b == 1) = true := beq_iff_eq.mpr x3
      have e3 : decide (op = 1 ∧ (a = 1 ∨ b = 1)) = true := decide_eq_true ⟨x1, .inr x3⟩
      have E3 := Aside0.mk e3
      clear x1 x2 x3 e3
      go_wp2
      go_meet
      case rel => exact ⟨_, rfl, ⟨E3.out.symm⟩, rfl⟩
     ·have e4 : (b == 1) = false := beq_eq_false_iff_ne.mpr x3
      have e3 : decide (op = 1 ∧ (a = 1 ∨ b = 1)) = false := decide_eq_false (fun h_ => h_.2.elim x2 x3)
      have E3 := Aside0.mk e3
      clear x1 x2 x3 e3
      go_wp2
      go_meet
      case rel => exact ⟨_, rfl, ⟨E3.out.symm⟩, rfl⟩
   ·have e1 : (op == 1) = false := beq_eq_false_iff_ne.mpr x1
    have e3 : decide (op = 1 ∧ (a = 1 ∨ b = 1)) = false := decide_eq_false (fun h_ => x1 h_.1)
    have E3 := Aside0.mk e3
    clear x1 e3
    go_wp2
    go_meet
    case rel => exact ⟨_, rfl, ⟨E3.out.symm⟩, rfl⟩
  case rest =>
  obtain ⟨q5, rfl, HQ5, rfl⟩ := hcut
  by_cases c5 : op = 1 ∧ (a = 1 ∨ b = 1)
  ·obtain rfl : q5 = true := HQ5.out.trans (decide_eq_true c5)
   have H1 := H.out
   rw [if_pos c5] at H1
   simp only [Option.some.injEq, Prod.mk.injEq] at H1
   obtain ⟨rfl, rfl, rfl⟩ := H1
   clear c5 H
   have d20 : w2.cell? ⟨g0, 0, none⟩ = some (.int .i64 a0) := (blk_cell BD2.out 0).trans rfl
   have d21 : w2.cell? ⟨g0, 1, none⟩ = some (.slice A l.length c) := (blk_cell BD2.out 1).trans rfl
   have r20 : w2.cell? ⟨gr, 0, none⟩ = some (.int .i64 0) := (blk_cell BR2.out 0).trans rfl
   have r21 : w2.cell? ⟨gr, 1, none⟩ = some (.slice none 0 0) := (blk_cell BR2.out 1).trans rfl
   have q20 := blk_frozen BR2.out 0
   have q21 := blk_frozen BR2.out 1
   go_wp2
   have HE := below_set (below_set HB2.out GR.out (j := 0) (v := .int .i64 a0)) GR.out (j := 1) (v := .slice A l.length c)
   refine bodyPost_ret (results_ct rfl _ _ gr 25 #[.int .i64 a0, .slice A l.length c] (0, 0) _ rfl (blk_put (blk_put BR2.out 0 _ rfl) 1 _ rfl) Try.underlying25 rfl (by kernel_rfl)) rfl ?_
   exact ⟨_, rfl, Kd.R_below (Kd.R_mono HR.out (fun _ hk => .inl hk)) HE, below_then HB.out HB.out.size HE, Kept.of_below HE _, Ap.Stays.refl HE⟩
  obtain rfl : q5 = false := HQ5.out.trans (decide_eq_false c5)
  have H1 := H.out
  rw [if_neg c5] at H1
  clear c5 H
  have H := Aside0.mk H1
  clear H1
  obtain ⟨v1, hv1, h⟩ := Option.bind_eq_some_iff.mp H.out
  obtain ⟨v2, hv2, h⟩ := Option.bind_eq_some_iff.mp h
  obtain ⟨v, hv⟩ : ∃ v, (if v2 < v1 then v2 else v1) = v := ⟨_, rfl⟩
  rw [hv] at h
  obtain ⟨x, hx, h⟩ := Option.bind_eq_some_iff.mp h
  obtain ⟨y, hy, h⟩ := Option.bind_eq_some_iff.mp h
  obtain ⟨⟨n1, l1, lo⟩, hp1, h⟩ := Option.bind_eq_some_iff.mp h
  simp only at h
  have V1 := Aside0.mk hv1
  have V2 := Aside0.mk hv2
  have VV := Aside0.mk hv
  have HX := Aside0.mk hx
  have HY := Aside0.mk hy
  have P1 := Aside0.mk hp1
  clear H
  have H := Aside0.mk h
  clear hv1 hv2 hv hx hy hp1 h
  have HR2 := Aside0.mk (Kd.R_below HR.out HB2.out)
  have d20 : w2.cell? ⟨g0, 0, none⟩ = some (.int .i64 a0) := (blk_cell BD2.out 0).trans rfl
  have d21 : w2.cell? ⟨g0, 1, none⟩ = some (.slice A l.length c) := (blk_cell BD2.out 1).trans rfl
  go_upto_if 67 with (first | (go_at_call 99; (with_reducible refine (spec_l8Var.calls a0 A c l a v1 _ (Kd.R_reads' HR2.out).2.2 (Kd.R_reads' HR2.out).2.1 V1.out).mono ?_); rintro e w3 ⟨rfl, hb⟩; have HB3 := Aside0.mk (below_step HB2.out hb); have BD3 := Aside0.mk (blk_below BD2.out hb); have BR3 := Aside0.mk (blk_below BR2.out hb); have d30 : w3.cell? ⟨g0, 0, none⟩ = some (.int .i64 a0) := (blk_cell BD3.out 0).trans rfl; have d31 : w3.cell? ⟨g0, 1, none⟩ = some (.slice A l.length c) := (blk_cell BD3.out 1).trans rfl; have HR3 := Aside0.mk (Kd.R_below HR.out HB3.out); clear hb) | (go_at_call 99; (with_reducible refine (spec_l8Var.calls a0 A c l b v2 _ (Kd.R_reads' HR3.out).2.2 (Kd.R_reads' HR3.out).2.1 V2.out).mono ?_); rintro e w4 ⟨rfl, hb⟩; have HB4 := Aside0.mk (below_step HB3.out hb); have BD4 := Aside0.mk (blk_below BD3.out hb); have BR4 := Aside0.mk (blk_below BR3.out hb); have d40 : w4.cell? ⟨g0, 0, none⟩ = some (.int .i64 a0) := (blk_cell BD4.out 0).trans rfl; have d41 : w4.cell? ⟨g0, 1, none⟩ = some (.slice A l.length c) := (blk_cell BD4.out 1).trans rfl; have HR4 := Aside0.mk (Kd.R_below HR.out HB4.out); clear hb))
  obtain ⟨q7, hq7⟩ : ∃ q7, decide (v2 < v1) = q7 := ⟨_, rfl⟩
  rw [hq7]
  have HQ7 := Aside0.mk hq7
  clear hq7
  go_cut [10] from 67 to 70 (fun s10 wx => s10 = .int .i64 v ∧ Aside0 (Below w.heap.size w wx) ∧ Aside0 (wx.heap[g0]? = some (.cells #[.int .i64 a0, .slice A l.length c] 25 (0, 0))) ∧ Aside0 (wx.heap[gr]? = some (.cells #[.int .i64 0, .slice none 0 0] 25 (0, 0))))
  case first =>
   by_cases x1 : v2 < v1
   ·obtain rfl : true = q7 := (decide_eq_true x1).symm.trans HQ7.out
    have e2 : v2 = v := (if_pos x1).symm.trans VV.out
    have E2 := Aside0.mk e2
    clear x1 e2
    go_wp2_with (go_at_call 99; (with_reducible refine (spec_l8Var.calls a0 A c l b v2 _ (Kd.R_reads' HR4.out).2.2 (Kd.R_reads' HR4.out).2.1 V2.out).mono ?_); rintro e w5 ⟨rfl, hb⟩; have HB5 := Aside0.mk (below_step HB4.out hb); have BD5 := Aside0.mk (blk_below BD4.out hb); have BR5 := Aside0.mk (blk_below BR4.out hb); clear hb)
    go_meet
    case rel => exact ⟨by rw [E2.out], HB5, BD5, BR5⟩
   ·obtain rfl : false = q7 := (decide_eq_false x1).symm.trans HQ7.out
    have e2 : v1 = v := (if_neg x1).symm.trans VV.out
    have E2 := Aside0.mk e2
    clear x1 e2
    go_wp2
    go_meet
    case rel => exact ⟨by rw [E2.out], HB4, BD4, BR4⟩
  case rest =>
  obtain ⟨rfl, HB6, BD6, BR6⟩ := hcut
  clear d20 d21 HR2 BD2 BR2 HB2 BD1 HB1
  have QU6 := Aside0.mk (Kd.R_below HR.out HB6.out)
  have QK6 := Aside0.mk (Kept.of_below HB6.out (fun k_ => (Value.slice A l.length c).ownBlock = some k_))
  have QB6 := Aside0.mk (below_then HB.out HB.out.size HB6.out)
  have QS6 := Aside0.mk (Ap.Stays.refl (d := k71) (e := 71) (base := w0.heap.size) (v := .slice A l.length c) (xs := l) HB6.out)
  have VG6 : Aside0 (∀ k_, (Value.slice A l.length c).ownBlock = some k_ → (Value.slice A l.length c).ownBlock = some k_ ∨ w.heap.size ≤ k_) := ⟨fun _ hk => .inl hk⟩
  clear HB6
  go_upto_region 10 with fail
  refine start_ (n := 17) (S := fun w' => True) (ds := []) (Pt.bm 17 0) (by kernel_rfl) rfl rfl trivial (fun hHeld => ?_)
  refine with_tabW spec_l8Do.tab10 spec_l8Do.bits10 (fun HT_ HW_ => ?_)
  have n0_ := Aside0.mk (blk_drew BD6.out)
  have n1_ := Aside0.mk (blk_drew BR6.out)
  have n3_ := Aside0.mk (Kd.R_drew QU6.out)
  have n4_ := Aside0.mk QK6.out.drew
  have n5_ := Aside0.mk (below_drew QB6.out)
  have n6_ := Aside0.mk (QS6.out.below (below_drew (Below.refl _ _)))
  have n7_ := n3_
  clear BD6 BR6 QU6 QK6 QB6 QS6 hHeld
  generalize wc.drew = wS at n0_ n1_ n3_ n4_ n5_ n6_ n7_ ⊢
  refine Pt.pu 1 (some 73) (Pt.bm 17 2) (by kernel_rfl) ?_
  refine Pt.pu 3 (some 75) (Pt.bm 17 10) (by kernel_rfl) ?_
  refine Pt.pu 4 (some 76) (Pt.bm 17 26) (by kernel_rfl) ?_
  refine Pt.pu 7 (some 79) (Pt.bm 17 154) (by kernel_rfl) ?_
  refine Pt.pu 8 (some 80) (Pt.bm 17 410) (by kernel_rfl) ?_
  refine inv_at [0, 2, 6, 5, 9, 10, 11, 12, 13, 14, 15, 16] (fun a0_ b_ a' w' => ∃ (vn : Value) (gb : Nat) (m10 m11 m12 m14 : Value), a' = putSel a0_ b_ [(0, 72, .agg #[.int .i64 a0, .slice A l.length c]), (2, 74, .agg #[.int .i64 a0, .slice A l.length c]), (6, 78, .agg #[.int .i64 a0, .slice A l.length c]), (5, 77, .int .i64 x), (9, 81, .int .i64 y), (10, 82, m10), (11, 71, m11), (12, 83, m12), (13, 84, .int .i64 lo), (14, 11, m14), (16, 12, .int .i64 lo)] ∧ w'.heap[g0]? = some (.cells #[.int .i64 a0, .slice A l.length c] 25 (0, 0)) ∧ w'.heap[gr]? = some (.cells #[.int .i64 0, .slice none 0 0] 25 (0, 0)) ∧ True ∧ Kd.R k71 71 w' w0.heap.size (fun k_ => (Value.slice A l.length c).ownBlock = some k_) (.slice A l.length c) l ∧ Kept w w' (fun k_ => (Value.slice A l.length c).ownBlock = some k_) ∧ Below w0.heap.size w0 w' ∧ (b_ 10 = false → Kd.R k71 71 w' w0.heap.size (fun k_ => (Value.slice A l.length c : Value).ownBlock = some k_) (Value.slice A l.length c) l ∧ Ap.Stays k71 71 w0.heap.size w (.slice A l.length c) l w' (Value.slice A l.length c) l) ∧ (b_ 10 = true → Kd.R k71 71 w' w0.heap.size (fun k_ => (Value.slice A l.length c).ownBlock = some k_ ∨ w.heap.size ≤ k_) vn l1 ∧ Ap.Stays k71 71 w0.heap.size w (.slice A l.length c) l w' vn l1) ∧ (b_ 14 = true → w.heap.size ≤ gb ∧ g0 ≠ gb ∧ gr ≠ gb) ∧ (b_ 14 = true → b_ 15 = false → w'.heap[gb]? = some (.cells #[.int .i64 0, .slice none 0 0] 25 (0, 0))) ∧ (b_ 15 = true → w'.heap[gb]? = some (.cells #[.int .i64 n1, vn] 25 (0, 0))) ∧ (b_ 10 = true → m10 = .tuple #[.agg #[.int .i64 n1, vn], .int .i64 lo]) ∧ (b_ 11 = true → m11 = .tuple #[.agg #[.int .i64 n1, vn], .int .i64 lo]) ∧ (b_ 12 = true → m12 = .agg #[.int .i64 n1, vn]) ∧ (b_ 14 = true → m14 = .pointer (some ⟨gb, 0, none⟩))) HT_.out HW_.out (by kernel_rfl) (by kernel_rfl) ?_ ?_ ?_
  ·exact ⟨.bool false, 0, .bool false, .bool false, .bool false, .bool false, by simp only [putSel, Bool.false_eq_true, if_false], n0_.out, n1_.out, trivial, n3_.out, n4_.out, n5_.out, fun _ => ⟨n7_.out, n6_.out⟩, fun h_ => absurd h_ (by decide), fun h_ => absurd h_ (by decide), fun h_ => absurd h_ (by decide), fun h_ => absurd h_ (by decide), fun h_ => absurd h_ (by decide), fun h_ => absurd h_ (by decide), fun h_ => absurd h_ (by decide), fun h_ => absurd h_ (by decide)⟩
  ·clear n0_ n1_ n3_ n4_ n5_ n6_ n7_
   refine steps_cons ?_ ?_
   ·rintro b_ a' w' ⟨vn, gb, m10, m11, m12, m14, ha, Q_D, Q_Z, Q_G, Q_U, Q_K, Q_B, Q_V, Q_N, Q_g, Q_gz, Q_gf, E_10, E_11, E_12, E_14⟩ hb_ hon hoff
    refine ⟨_, rfl, fun K hK => ?_⟩
    have e4 : a'.tmps[4]? = some (.pointer (some ⟨g0, 0, none⟩)) := by rw [ha]; exact (putSel_off rfl).trans rfl
    replace ha := Aside0.mk ha
    have hc0_ : w'.cell? ⟨g0, 0, none⟩ = some (.int .i64 a0) := (blk_cell Q_D 0).trans rfl
    have hc1_ : w'.cell? ⟨g0, 1, none⟩ = some (.slice A l.length c) := (blk_cell Q_D 1).trans rfl
    refine value_ (w1 := w') (v := .agg #[.int .i64 a0, .slice A l.length c]) (by rfl) rfl ?_ ?_
    ·go_simp
     (try simp only [i64_w])
     try rfl
    exact hK.out _ _ ⟨vn, gb, m10, m11, m12, m14, (by rw [ha.out]; exact putSel_upk 0 hb_ rfl rfl rfl), Q_D, Q_Z, Q_G, Q_U, Q_K, Q_B, Q_V, Q_N, Q_g, Q_gz, Q_gf, E_10, E_11, E_12, E_14⟩
   refine steps_cons ?_ ?_
   ·rintro b_ a' w' ⟨vn, gb, m10, m11, m12, m14, ha, Q_D, Q_Z, Q_G, Q_U, Q_K, Q_B, Q_V, Q_N, Q_g, Q_gz, Q_gf, E_10, E_11, E_12, E_14⟩ hb_ hon hoff
    refine ⟨_, rfl, fun K hK => ?_⟩
    have e4 : a'.tmps[4]? = some (.pointer (some ⟨g0, 0, none⟩)) := by rw [ha]; exact (putSel_off rfl).trans rfl
    replace ha := Aside0.mk ha
    have hc0_ : w'.cell? ⟨g0, 0, none⟩ = some (.int .i64 a0) := (blk_cell Q_D 0).trans rfl
    have hc1_ : w'.cell? ⟨g0, 1, none⟩ = some (.slice A l.length c) := (blk_cell Q_D 1).trans rfl
    refine value_ (w1 := w') (v := .agg #[.int .i64 a0, .slice A l.length c]) (by rfl) rfl ?_ ?_
    ·go_simp
     (try simp only [i64_w])
     try rfl
    exact hK.out _ _ ⟨vn, gb, m10, m11, m12, m14, (by rw [ha.out]; exact putSel_upk 1 hb_ rfl rfl rfl), Q_D, Q_Z, Q_G, Q_U, Q_K, Q_B, Q_V, Q_N, Q_g, Q_gz, Q_gf, E_10, E_11, E_12, E_14⟩
   refine steps_cons ?_ ?_
   ·rintro b_ a' w' ⟨vn, gb, m10, m11, m12, m14, ha, Q_D, Q_Z, Q_G, Q_U, Q_K, Q_B, Q_V, Q_N, Q_g, Q_gz, Q_gf, E_10, E_11, E_12, E_14⟩ hb_ hon hoff
    refine ⟨_, rfl, fun K hK => ?_⟩
    have e4 : a'.tmps[4]? = some (.pointer (some ⟨g0, 0, none⟩)) := by rw [ha]; exact (putSel_off rfl).trans rfl
    replace ha := Aside0.mk ha
    have hc0_ : w'.cell? ⟨g0, 0, none⟩ = some (.int .i64 a0) := (blk_cell Q_D 0).trans rfl
    have hc1_ : w'.cell? ⟨g0, 1, none⟩ = some (.slice A l.length c) := (blk_cell Q_D 1).trans rfl
    refine value_ (w1 := w') (v := .agg #[.int .i64 a0, .slice A l.length c]) (by rfl) rfl ?_ ?_
    ·go_simp
     (try simp only [i64_w])
     try rfl
    exact hK.out _ _ ⟨vn, gb, m10, m11, m12, m14, (by rw [ha.out]; exact putSel_upk 2 hb_ rfl rfl rfl), Q_D, Q_Z, Q_G, Q_U, Q_K, Q_B, Q_V, Q_N, Q_g, Q_gz, Q_gf, E_10, E_11, E_12, E_14⟩
   refine steps_cons ?_ ?_
   ·rintro b_ a' w' ⟨vn, gb, m10, m11, m12, m14, ha, Q_D, Q_Z, Q_G, Q_U, Q_K, Q_B, Q_V, Q_N, Q_g, Q_gz, Q_gf, E_10, E_11, E_12, E_14⟩ hb_ hon hoff
    refine ⟨_, rfl, fun K hK => ?_⟩
    have e74 : a'.tmps[74]? = some (.agg #[.int .i64 a0, .slice A l.length c]) := by rw [ha]; exact putSel_on (e := (2, 74, .agg #[.int .i64 a0, .slice A l.length c])) 1 rfl rfl (hon 2 (by kernel_rfl)) rfl
    have e75 : a'.tmps[75]? = some (.int .i64 a) := by rw [ha]; exact (putSel_off rfl).trans rfl
    have e76 : a'.tmps[76]? = some (.int .i64 v) := by rw [ha]; exact (putSel_off rfl).trans rfl
    replace ha := Aside0.mk ha
    refine goes_ Try.func94 (by kernel_rfl) rfl #[.agg #[.int .i64 a0, .slice A l.length c], .int .i64 a, .int .i64 v, .int .i64 0] (by rfl) rfl rfl (by first | (simp only [List.map_toArray, List.map_cons, List.map_nil, Act.eval, Array.getD_eq_getD_getElem?, Option.getD_some, e74, e75, e76]; done) | (simp only [List.map_toArray, List.map_cons, List.map_nil, Act.eval, Array.getD_eq_getD_getElem?, Option.getD_some, e74, e75, e76]; rfl)) ?_
    with_reducible refine (spec_l8At.calls a0 A c l a v 0 x _ (Kd.R_reads' Q_U).2.2 (Kd.R_reads' Q_U).2.1 HX.out).mono ?_
    rintro e w9 ⟨rfl, hb⟩
    exact ⟨_, rfl, hK.out _ _ ⟨vn, gb, m10, m11, m12, m14, (by rw [ha.out]; exact putSel_upk 3 hb_ rfl rfl rfl), blk_below Q_D hb, blk_below Q_Z hb, trivial, Kd.R_below Q_U hb, Q_K.below hb, below_then Q_B Q_B.size hb, fun h_ => ⟨Kd.R_below (Q_V h_).1 hb, (Q_V h_).2.below hb⟩, fun h_ => ⟨Kd.R_below (Q_N h_).1 hb, (Q_N h_).2.below hb⟩, Q_g, fun h1 h2 => blk_below (Q_gz h1 h2) hb, fun h_ => blk_below (Q_gf h_) hb, E_10, E_11, E_12, E_14⟩⟩
   refine steps_cons ?_ ?_
   ·rintro b_ a' w' ⟨vn, gb, m10, m11, m12, m14, ha, Q_D, Q_Z, Q_G, Q_U, Q_K, Q_B, Q_V, Q_N, Q_g, Q_gz, Q_gf, E_10, E_11, E_12, E_14⟩ hb_ hon hoff
    refine ⟨_, rfl, fun K hK => ?_⟩
    have e78 : a'.tmps[78]? = some (.agg #[.int .i64 a0, .slice A l.length c]) := by rw [ha]; exact putSel_on (e := (6, 78, .agg #[.int .i64 a0, .slice A l.length c])) 2 rfl rfl (hon 6 (by kernel_rfl)) rfl
    have e79 : a'.tmps[79]? = some (.int .i64 b) := by rw [ha]; exact (putSel_off rfl).trans rfl
    have e80 : a'.tmps[80]? = some (.int .i64 v) := by rw [ha]; exact (putSel_off rfl).trans rfl
    replace ha := Aside0.mk ha
    refine goes_ Try.func94 (by kernel_rfl) rfl #[.agg #[.int .i64 a0, .slice A l.length c], .int .i64 b, .int .i64 v, .int .i64 0] (by rfl) rfl rfl (by first | (simp only [List.map_toArray, List.map_cons, List.map_nil, Act.eval, Array.getD_eq_getD_getElem?, Option.getD_some, e78, e79, e80]; done) | (simp only [List.map_toArray, List.map_cons, List.map_nil, Act.eval, Array.getD_eq_getD_getElem?, Option.getD_some, e78, e79, e80]; rfl)) ?_
    with_reducible refine (spec_l8At.calls a0 A c l b v 0 y _ (Kd.R_reads' Q_U).2.2 (Kd.R_reads' Q_U).2.1 HY.out).mono ?_
    rintro e w9 ⟨rfl, hb⟩
    exact ⟨_, rfl, hK.out _ _ ⟨vn, gb, m10, m11, m12, m14, (by rw [ha.out]; exact putSel_upk 4 hb_ rfl rfl rfl), blk_below Q_D hb, blk_below Q_Z hb, trivial, Kd.R_below Q_U hb, Q_K.below hb, below_then Q_B Q_B.size hb, fun h_ => ⟨Kd.R_below (Q_V h_).1 hb, (Q_V h_).2.below hb⟩, fun h_ => ⟨Kd.R_below (Q_N h_).1 hb, (Q_N h_).2.below hb⟩, Q_g, fun h1 h2 => blk_below (Q_gz h1 h2) hb, fun h_ => blk_below (Q_gf h_) hb, E_10, E_11, E_12, E_14⟩⟩
   refine steps_cons ?_ ?_
   ·rintro b_ a' w' ⟨vn, gb, m10, m11, m12, m14, ha, Q_D, Q_Z, Q_G, Q_U, Q_K, Q_B, Q_V, Q_N, Q_g, Q_gz, Q_gf, E_10, E_11, E_12, E_14⟩ hb_ hon hoff
    refine ⟨_, rfl, fun K hK => ?_⟩
    have e72 : a'.tmps[72]? = some (.agg #[.int .i64 a0, .slice A l.length c]) := by rw [ha]; exact putSel_on (e := (0, 72, .agg #[.int .i64 a0, .slice A l.length c])) 0 rfl rfl (hon 0 (by kernel_rfl)) rfl
    have e73 : a'.tmps[73]? = some (.int .i64 op) := by rw [ha]; exact (putSel_off rfl).trans rfl
    have e77 : a'.tmps[77]? = some (.int .i64 x) := by rw [ha]; exact putSel_on (e := (5, 77, .int .i64 x)) 3 rfl rfl (hon 5 (by kernel_rfl)) rfl
    have e81 : a'.tmps[81]? = some (.int .i64 y) := by rw [ha]; exact putSel_on (e := (9, 81, .int .i64 y)) 4 rfl rfl (hon 9 (by kernel_rfl)) rfl
    replace ha := Aside0.mk ha
    refine goes_ Try.func104 (by kernel_rfl) rfl #[.agg #[.int .i64 a0, .slice A l.length c], .int .i64 op, .int .i64 x, .int .i64 y] (by rfl) rfl rfl (by first | (simp only [List.map_toArray, List.map_cons, List.map_nil, Act.eval, Array.getD_eq_getD_getElem?, Option.getD_some, e72, e73, e77, e81]; done) | (simp only [List.map_toArray, List.map_cons, List.map_nil, Act.eval, Array.getD_eq_getD_getElem?, Option.getD_some, e72, e73, e77, e81]; rfl)) ?_
    have QV_ := Q_V hb_
    with_reducible refine (IH.out a0 (Value.slice A l.length c) l op x y n1 l1 lo w0 _ Q_B QV_.1 P1.out).mono ?_
    rintro e w9 ⟨vN, rfl, q1_, q2_, q3_, q4_⟩
    exact ⟨_, rfl, hK.out _ _ ⟨vN, gb, .tuple #[.agg #[.int .i64 n1, vN], .int .i64 lo], m11, m12, m14, (by rw [ha.out]; exact putSel_upk 5 hb_ rfl rfl rfl), blk_kept Q_D q3_ (spec_l8Do.own_ne QV_.1 Q_D), blk_kept Q_Z q3_ (spec_l8Do.own_ne QV_.1 Q_Z), trivial, (q4_ _ _ _ Q_U (QV_.2 _ _ _ HR.out (Ap.Pre.refl HR.out)).2).1, Q_K.then_ q3_ VG6.out, q2_, fun h_ => absurd ((up_self b_ 10).symm.trans h_) (by decide), fun _ => ⟨Kd.R_mono q1_ (fun k_ hk => hk.elim (VG6.out k_) (fun h_ => .inr (Nat.le_trans Q_K.1 h_))), QV_.2.trans q4_⟩, Q_g, fun h1 h2 => blk_kept (Q_gz h1 h2) q3_ (spec_l8Do.own_ne QV_.1 (Q_gz h1 h2)), fun h_ => absurd ((hoff 15 (by kernel_rfl)).symm.trans h_) (by decide), fun _ => rfl, fun h_ => absurd ((hoff 11 (by kernel_rfl)).symm.trans h_) (by decide), fun h_ => absurd ((hoff 12 (by kernel_rfl)).symm.trans h_) (by decide), E_14⟩⟩
   refine steps_cons ?_ ?_
   ·rintro b_ a' w' ⟨vn, gb, m10, m11, m12, m14, ha, Q_D, Q_Z, Q_G, Q_U, Q_K, Q_B, Q_V, Q_N, Q_g, Q_gz, Q_gf, E_10, E_11, E_12, E_14⟩ hb_ hon hoff
    refine ⟨_, rfl, fun K hK => ?_⟩
    obtain rfl := E_10 (hon 10 (by kernel_rfl))
    have e82 : a'.tmps[82]? = some (.tuple #[.agg #[.int .i64 n1, vn], .int .i64 lo]) := by rw [ha]; exact putSel_on (e := (10, 82, .tuple #[.agg #[.int .i64 n1, vn], .int .i64 lo])) 5 rfl rfl (hon 10 (by kernel_rfl)) rfl
    replace ha := Aside0.mk ha
    refine value_ (w1 := w') (v := .tuple #[.agg #[.int .i64 n1, vn], .int .i64 lo]) (by rfl) rfl ?_ ?_
    ·go_simp
     (try simp only [i64_w])
     try rfl
    exact hK.out _ _ ⟨vn, gb, _, .tuple #[.agg #[.int .i64 n1, vn], .int .i64 lo], m12, m14, (by rw [ha.out]; exact putSel_upk 6 hb_ rfl rfl rfl), Q_D, Q_Z, Q_G, Q_U, Q_K, Q_B, Q_V, Q_N, Q_g, Q_gz, Q_gf, fun _ => rfl, fun _ => rfl, E_12, E_14⟩
   refine steps_cons ?_ ?_
   ·rintro b_ a' w' ⟨vn, gb, m10, m11, m12, m14, ha, Q_D, Q_Z, Q_G, Q_U, Q_K, Q_B, Q_V, Q_N, Q_g, Q_gz, Q_gf, E_10, E_11, E_12, E_14⟩ hb_ hon hoff
    refine ⟨_, rfl, fun K hK => ?_⟩
    obtain rfl := E_11 (hon 11 (by kernel_rfl))
    have e71 : a'.tmps[71]? = some (.tuple #[.agg #[.int .i64 n1, vn], .int .i64 lo]) := by rw [ha]; exact putSel_on (e := (11, 71, .tuple #[.agg #[.int .i64 n1, vn], .int .i64 lo])) 6 rfl rfl (hon 11 (by kernel_rfl)) rfl
    replace ha := Aside0.mk ha
    refine value_ (w1 := w') (v := .agg #[.int .i64 n1, vn]) (by rfl) rfl ?_ ?_
    ·go_simp
     (try simp only [i64_w])
     try rfl
    exact hK.out _ _ ⟨vn, gb, m10, _, .agg #[.int .i64 n1, vn], m14, (by rw [ha.out]; exact putSel_upk 7 hb_ rfl rfl rfl), Q_D, Q_Z, Q_G, Q_U, Q_K, Q_B, Q_V, Q_N, Q_g, Q_gz, Q_gf, E_10, fun _ => rfl, fun _ => rfl, E_14⟩
   refine steps_cons ?_ ?_
   ·rintro b_ a' w' ⟨vn, gb, m10, m11, m12, m14, ha, Q_D, Q_Z, Q_G, Q_U, Q_K, Q_B, Q_V, Q_N, Q_g, Q_gz, Q_gf, E_10, E_11, E_12, E_14⟩ hb_ hon hoff
    refine ⟨_, rfl, fun K hK => ?_⟩
    obtain rfl := E_11 (hon 11 (by kernel_rfl))
    have e71 : a'.tmps[71]? = some (.tuple #[.agg #[.int .i64 n1, vn], .int .i64 lo]) := by rw [ha]; exact putSel_on (e := (11, 71, .tuple #[.agg #[.int .i64 n1, vn], .int .i64 lo])) 6 rfl rfl (hon 11 (by kernel_rfl)) rfl
    replace ha := Aside0.mk ha
    refine value_ (w1 := w') (v := .int .i64 lo) (by rfl) rfl ?_ ?_
    ·go_simp
     (try simp only [i64_w])
     try rfl
    exact hK.out _ _ ⟨vn, gb, m10, _, m12, m14, (by rw [ha.out]; exact putSel_upk 8 hb_ rfl rfl rfl), Q_D, Q_Z, Q_G, Q_U, Q_K, Q_B, Q_V, Q_N, Q_g, Q_gz, Q_gf, E_10, fun _ => rfl, E_12, E_14⟩
   refine steps_cons ?_ ?_
   ·rintro b_ a' w' ⟨vn, gb, m10, m11, m12, m14, ha, Q_D, Q_Z, Q_G, Q_U, Q_K, Q_B, Q_V, Q_N, Q_g, Q_gz, Q_gf, E_10, E_11, E_12, E_14⟩ hb_ hon hoff
    refine ⟨_, rfl, fun K hK => ?_⟩
    replace ha := Aside0.mk ha
    refine value_ (w1 := w'.alloc (.cells #[.int .i64 0, .slice none 0 0] 25 (0, 0))) (v := .pointer (some ⟨w'.heap.size, 0, none⟩)) (by rfl) rfl ?_ ?_
    ·first | (go_simp; done) | (go_simp; rfl)
    have hb := below_alloc (Below.refl w'.heap.size w') (.cells #[.int .i64 0, .slice none 0 0] 25 (0, 0))
    exact hK.out _ _ ⟨vn, w'.heap.size, m10, m11, m12, .pointer (some ⟨w'.heap.size, 0, none⟩), (by rw [ha.out]; exact putSel_upk 9 hb_ rfl rfl rfl), blk_below Q_D hb, blk_below Q_Z hb, trivial, Kd.R_below Q_U hb, Q_K.below hb, below_then Q_B Q_B.size hb, fun h_ => ⟨Kd.R_below (Q_V h_).1 hb, (Q_V h_).2.below hb⟩, fun h_ => ⟨Kd.R_below (Q_N h_).1 hb, (Q_N h_).2.below hb⟩, fun _ => ⟨Q_K.1, Nat.ne_of_lt (blk_lt Q_D), Nat.ne_of_lt (blk_lt Q_Z)⟩, fun _ _ => blk_new _ _, fun h_ => absurd ((hoff 15 (by kernel_rfl)).symm.trans h_) (by decide), E_10, E_11, E_12, fun _ => rfl⟩
   refine steps_cons ?_ ?_
   ·rintro b_ a' w' ⟨vn, gb, m10, m11, m12, m14, ha, Q_D, Q_Z, Q_G, Q_U, Q_K, Q_B, Q_V, Q_N, Q_g, Q_gz, Q_gf, E_10, E_11, E_12, E_14⟩ hb_ hon hoff
    refine ⟨_, rfl, fun K hK => ?_⟩
    obtain rfl := E_12 (hon 12 (by kernel_rfl))
    obtain rfl := E_14 (hon 14 (by kernel_rfl))
    have G_ := Q_g (hon 14 (by kernel_rfl))
    have Z_ := Q_gz (hon 14 (by kernel_rfl)) hb_
    have h10 := hon 10 (by kernel_rfl)
    obtain ⟨A9, c9, rfl⟩ := Kd.R_slice (Q_N h10).1
    have e11 : a'.tmps[11]? = some (.pointer (some ⟨gb, 0, none⟩)) := by rw [ha]; exact putSel_on (e := (14, 11, .pointer (some ⟨gb, 0, none⟩))) 9 rfl rfl (hon 14 (by kernel_rfl)) rfl
    have e83 : a'.tmps[83]? = some (.agg #[.int .i64 n1, .slice A9 l1.length c9]) := by rw [ha]; exact putSel_on (e := (12, 83, .agg #[.int .i64 n1, .slice A9 l1.length c9])) 7 rfl rfl (hon 12 (by kernel_rfl)) rfl
    replace ha := Aside0.mk ha
    have hs0 : w'.cell? ⟨gb, 0, none⟩ = some (.int .i64 0) := (blk_cell Z_ 0).trans rfl
    have hs1 : w'.cell? ⟨gb, 1, none⟩ = some (.slice none 0 0) := (blk_cell Z_ 1).trans rfl
    have hf0 := blk_frozen Z_ 0
    have hf1 := blk_frozen Z_ 1
    have GA := Aside0.mk G_
    have ZA := Aside0.mk Z_
    have H10 := Aside0.mk h10
    replace Q_D := Aside0.mk Q_D
    replace Q_Z := Aside0.mk Q_Z
    replace Q_G := Aside0.mk Q_G
    replace Q_U := Aside0.mk Q_U
    replace Q_K := Aside0.mk Q_K
    replace Q_B := Aside0.mk Q_B
    replace Q_V := Aside0.mk Q_V
    replace Q_N := Aside0.mk Q_N
    clear G_ Z_ h10
    refine skip_ (w1 := ?_) (by rfl) rfl ?_ ?_
    rotate_left
    ·go_simp
     rfl
    exact hK.out _ _ ⟨_, gb, m10, m11, _, _, (by rw [ha.out]; exact putSel_none (v := undef) rfl), blk_far (p := ⟨gb, 1, none⟩) (blk_far (p := ⟨gb, 0, none⟩) Q_D.out GA.out.2.1 _) GA.out.2.1 _, blk_far (p := ⟨gb, 1, none⟩) (blk_far (p := ⟨gb, 0, none⟩) Q_Z.out GA.out.2.2 _) GA.out.2.2 _, trivial, Kd.R_set (Kd.R_set Q_U.out ZA.out (by decide) 0 _) (blk_put ZA.out 0 _ rfl) (by decide) 1 _, (Q_K.out.setCell (p := ⟨gb, 0, none⟩) (.inr GA.out.1) _).setCell (p := ⟨gb, 1, none⟩) (.inr GA.out.1) _, (Q_B.out.setCell (p := ⟨gb, 0, none⟩) (Nat.le_trans HB.out.size GA.out.1) _).setCell (p := ⟨gb, 1, none⟩) (Nat.le_trans HB.out.size GA.out.1) _, fun h_ => absurd (H10.out.symm.trans h_) (by decide), fun h_ => ⟨Kd.R_set (Kd.R_set (Q_N.out h_).1 ZA.out (by decide) 0 _) (blk_put ZA.out 0 _ rfl) (by decide) 1 _, spec_l8Do.stays_set (spec_l8Do.stays_set (Q_N.out h_).2 ZA.out) (blk_put ZA.out 0 _ rfl)⟩, Q_g, fun _ h_ => absurd ((up_self b_ 15).symm.trans h_) (by decide), fun _ => blk_put (blk_put ZA.out 0 _ rfl) 1 _ rfl, E_10, E_11, fun _ => rfl, fun _ => rfl⟩
   refine steps_cons ?_ ?_
   ·rintro b_ a' w' ⟨vn, gb, m10, m11, m12, m14, ha, Q_D, Q_Z, Q_G, Q_U, Q_K, Q_B, Q_V, Q_N, Q_g, Q_gz, Q_gf, E_10, E_11, E_12, E_14⟩ hb_ hon hoff
    refine ⟨_, rfl, fun K hK => ?_⟩
    have e84 : a'.tmps[84]? = some (.int .i64 lo) := by rw [ha]; exact putSel_on (e := (13, 84, .int .i64 lo)) 8 rfl rfl (hon 13 (by kernel_rfl)) rfl
    replace ha := Aside0.mk ha
    refine value_ (w1 := w') (v := .int .i64 lo) (by rfl) rfl ?_ ?_
    ·go_simp
     (try simp only [i64_w])
     try rfl
    exact hK.out _ _ ⟨vn, gb, m10, m11, m12, m14, (by rw [ha.out]; exact putSel_upk 10 hb_ rfl rfl rfl), Q_D, Q_Z, Q_G, Q_U, Q_K, Q_B, Q_V, Q_N, Q_g, Q_gz, Q_gf, E_10, E_11, E_12, E_14⟩
   exact steps_nil
  rintro b_ a' w8 hall ⟨vn, g1, m10, m11, m12, m14, ha, Q_D, Q_Z, Q_G, Q_U, Q_K, Q_B, Q_V, Q_N, Q_g, Q_gz, Q_gf, E_10, E_11, E_12, E_14⟩
  have hb0_ := hall 0 (by kernel_rfl)
  have hb2_ := hall 2 (by kernel_rfl)
  have hb6_ := hall 6 (by kernel_rfl)
  have hb5_ := hall 5 (by kernel_rfl)
  have hb9_ := hall 9 (by kernel_rfl)
  have hb10_ := hall 10 (by kernel_rfl)
  have hb11_ := hall 11 (by kernel_rfl)
  have hb12_ := hall 12 (by kernel_rfl)
  have hb13_ := hall 13 (by kernel_rfl)
  have hb14_ := hall 14 (by kernel_rfl)
  have hb15_ := hall 15 (by kernel_rfl)
  have hb16_ := hall 16 (by kernel_rfl)
  obtain rfl := E_10 hb10_
  obtain rfl := E_11 hb11_
  obtain rfl := E_12 hb12_
  obtain rfl := E_14 hb14_
  subst ha
  simp only [putSel, hb0_, hb2_, hb6_, hb5_, hb9_, hb10_, hb11_, hb12_, hb13_, hb14_, hb15_, hb16_, if_true, Act.put, List.setIfInBounds_toArray, List.set_cons_zero, List.set_cons_succ]
  have BD8 := Aside0.mk Q_D
  have BR8 := Aside0.mk Q_Z
  have HU8 := Aside0.mk Q_U
  have HK8 := Aside0.mk Q_K
  have HB8 := Aside0.mk Q_B
  have HN8 := Aside0.mk (Q_N hb10_).1
  have HS8 := Aside0.mk (Q_N hb10_).2
  have GG8 := Aside0.mk (Q_g hb14_)
  have BG8 := Aside0.mk (Q_gf hb15_)
  clear hall hb0_ hb2_ hb6_ hb5_ hb9_ hb10_ hb11_ hb12_ hb13_ hb14_ hb15_ hb16_ Q_D Q_Z Q_G Q_U Q_K Q_B Q_V Q_N Q_g Q_gz Q_gf E_10 E_11 E_12 E_14 n0_ n1_ n3_ n4_ n5_ n6_ n7_ HT_ HW_
  obtain ⟨A1, c1, rfl⟩ := Kd.R_slice HN8.out
  have H1 := H.out
  by_cases c5 : lo < 0
  ·rw [if_pos c5] at H1
   simp only [Option.some.injEq, Prod.mk.injEq] at H1
   obtain ⟨rfl, rfl, rfl⟩ := H1
   have e1 : decide (lo < 0) = true := decide_eq_true c5
   clear c5 H
   have d80 : w8.cell? ⟨g0, 0, none⟩ = some (.int .i64 a0) := (blk_cell BD8.out 0).trans rfl
   have d81 : w8.cell? ⟨g0, 1, none⟩ = some (.slice A l.length c) := (blk_cell BD8.out 1).trans rfl
   have r80 : w8.cell? ⟨gr, 0, none⟩ = some (.int .i64 0) := (blk_cell BR8.out 0).trans rfl
   have r81 : w8.cell? ⟨gr, 1, none⟩ = some (.slice none 0 0) := (blk_cell BR8.out 1).trans rfl
   have q80 := blk_frozen BR8.out 0
   have q81 := blk_frozen BR8.out 1
   go_wp2
   refine bodyPost_ret (results_ct rfl _ _ gr 25 #[.int .i64 a0, .slice A l.length c] (0, 0) _ rfl (blk_put (blk_put BR8.out 0 _ rfl) 1 _ rfl) Try.underlying25 rfl (by kernel_rfl)) rfl ?_
   exact ⟨_, rfl, Kd.R_mono (Kd.R_set (Kd.R_set HU8.out BR8.out (by decide) 0 _) (blk_put BR8.out 0 _ rfl) (by decide) 1 _) (fun _ hk => .inl hk), (HB8.out.setCell (p := ⟨gr, 0, none⟩) (Nat.le_trans HB.out.size GR.out) _).setCell (p := ⟨gr, 1, none⟩) (Nat.le_trans HB.out.size GR.out) _, (HK8.out.setCell (p := ⟨gr, 0, none⟩) (.inr GR.out) _).setCell (p := ⟨gr, 1, none⟩) (.inr GR.out) _, fun ok0 u0 xs0 h0 hp => ⟨Kd.R_set (Kd.R_set (HS8.out ok0 u0 xs0 h0 hp).1 BR8.out (by decide) 0 _) (blk_put BR8.out 0 _ rfl) (by decide) 1 _, hp⟩⟩
  rw [if_neg c5] at H1
  have e1 : decide (lo < 0) = false := decide_eq_false c5
  obtain ⟨x2, hx2, h⟩ := Option.bind_eq_some_iff.mp H1
  obtain ⟨y2, hy2, h⟩ := Option.bind_eq_some_iff.mp h
  obtain ⟨⟨n2, l2, hi⟩, hp2, h⟩ := Option.bind_eq_some_iff.mp h
  simp only at h hp2
  have HX2 := Aside0.mk hx2
  have HY2 := Aside0.mk hy2
  have P2 := Aside0.mk hp2
  clear H
  have H := Aside0.mk h
  clear H1 hx2 hy2 hp2 h c5
  have QU8 := HU8
  have QK8 := HK8
  have QB8 := HB8
  have QS8 := HS8
  have QV8 := Aside0.mk (Kd.R_mono (Kd.R_tight k71_E HN8.out) (fun _ hk => hk.symm))
  have VG8 : Aside0 (∀ k_, (Value.slice A1 l1.length c1).ownBlock = some k_ → (Value.slice A l.length c).ownBlock = some k_ ∨ w.heap.size ≤ k_) := ⟨fun k_ hk => HN8.out.1 k_ hk⟩
  clear HU8 HK8 HB8 HS8
  go_upto_region 13 with fail
  refine start_ (n := 17) (S := fun w' => True) (ds := []) (Pt.bm 17 0) (by kernel_rfl) rfl rfl trivial (fun hHeld => ?_)
  refine with_tabW spec_l8Do.tab13 spec_l8Do.bits13 (fun HT_ HW_ => ?_)
  have n0_ := Aside0.mk (blk_drew BD8.out)
  have n1_ := Aside0.mk (blk_drew BR8.out)
  have n2_ := Aside0.mk (blk_drew BG8.out)
  have n3_ := Aside0.mk (Kd.R_drew QU8.out)
  have n4_ := Aside0.mk QK8.out.drew
  have n5_ := Aside0.mk (below_drew QB8.out)
  have n6_ := Aside0.mk (QS8.out.below (below_drew (Below.refl _ _)))
  have n7_ := Aside0.mk (Kd.R_drew QV8.out)
  clear BD8 BR8 QU8 QK8 QB8 QS8 hHeld BG8 QV8
  generalize w8.drew = wS at n0_ n1_ n2_ n3_ n4_ n5_ n6_ n7_ ⊢
  refine Pt.pu 1 (some 90) (Pt.bm 17 2) (by kernel_rfl) ?_
  refine Pt.pu 3 (some 92) (Pt.bm 17 10) (by kernel_rfl) ?_
  refine Pt.pu 4 (some 93) (Pt.bm 17 26) (by kernel_rfl) ?_
  refine Pt.pu 7 (some 96) (Pt.bm 17 154) (by kernel_rfl) ?_
  refine Pt.pu 8 (some 97) (Pt.bm 17 410) (by kernel_rfl) ?_
  refine inv_at [0, 2, 6, 5, 9, 10, 11, 12, 13, 14, 15, 16] (fun a0_ b_ a' w' => ∃ (vn : Value) (gb : Nat) (m10 m11 m12 m14 : Value), a' = putSel a0_ b_ [(0, 89, .agg #[.int .i64 n1, .slice A1 l1.length c1]), (2, 91, .agg #[.int .i64 a0, .slice A l.length c]), (6, 95, .agg #[.int .i64 a0, .slice A l.length c]), (5, 94, .int .i64 x2), (9, 98, .int .i64 y2), (10, 99, m10), (11, 88, m11), (12, 100, m12), (13, 101, .int .i64 hi), (14, 13, m14), (16, 14, .int .i64 hi)] ∧ w'.heap[g0]? = some (.cells #[.int .i64 a0, .slice A l.length c] 25 (0, 0)) ∧ w'.heap[gr]? = some (.cells #[.int .i64 0, .slice none 0 0] 25 (0, 0)) ∧ w'.heap[g1]? = some (.cells #[.int .i64 n1, .slice A1 l1.length c1] 25 (0, 0)) ∧ Kd.R k71 71 w' w0.heap.size (fun k_ => (Value.slice A l.length c).ownBlock = some k_) (.slice A l.length c) l ∧ Kept w w' (fun k_ => (Value.slice A l.length c).ownBlock = some k_) ∧ Below w0.heap.size w0 w' ∧ (b_ 10 = false → Kd.R k71 71 w' w0.heap.size (fun k_ => (Value.slice A1 l1.length c1 : Value).ownBlock = some k_) (Value.slice A1 l1.length c1) l1 ∧ Ap.Stays k71 71 w0.heap.size w (.slice A l.length c) l w' (Value.slice A1 l1.length c1) l1) ∧ (b_ 10 = true → Kd.R k71 71 w' w0.heap.size (fun k_ => (Value.slice A l.length c).ownBlock = some k_ ∨ w.heap.size ≤ k_) vn l2 ∧ Ap.Stays k71 71 w0.heap.size w (.slice A l.length c) l w' vn l2) ∧ (b_ 14 = true → w.heap.size ≤ gb ∧ g0 ≠ gb ∧ gr ≠ gb ∧ g1 ≠ gb) ∧ (b_ 14 = true → b_ 15 = false → w'.heap[gb]? = some (.cells #[.int .i64 0, .slice none 0 0] 25 (0, 0))) ∧ (b_ 15 = true → w'.heap[gb]? = some (.cells #[.int .i64 n2, vn] 25 (0, 0))) ∧ (b_ 10 = true → m10 = .tuple #[.agg #[.int .i64 n2, vn], .int .i64 hi]) ∧ (b_ 11 = true → m11 = .tuple #[.agg #[.int .i64 n2, vn], .int .i64 hi]) ∧ (b_ 12 = true → m12 = .agg #[.int .i64 n2, vn]) ∧ (b_ 14 = true → m14 = .pointer (some ⟨gb, 0, none⟩))) HT_.out HW_.out (by kernel_rfl) (by kernel_rfl) ?_ ?_ ?_
  ·exact ⟨.bool false, 0, .bool false, .bool false, .bool false, .bool false, by simp only [putSel, Bool.false_eq_true, if_false], n0_.out, n1_.out, n2_.out, n3_.out, n4_.out, n5_.out, fun _ => ⟨n7_.out, n6_.out⟩, fun h_ => absurd h_ (by decide), fun h_ => absurd h_ (by decide), fun h_ => absurd h_ (by decide), fun h_ => absurd h_ (by decide), fun h_ => absurd h_ (by decide), fun h_ => absurd h_ (by decide), fun h_ => absurd h_ (by decide), fun h_ => absurd h_ (by decide)⟩
  ·clear n0_ n1_ n2_ n3_ n4_ n5_ n6_ n7_
   refine steps_cons ?_ ?_
   ·rintro b_ a' w' ⟨vn, gb, m10, m11, m12, m14, ha, Q_D, Q_Z, Q_G, Q_U, Q_K, Q_B, Q_V, Q_N, Q_g, Q_gz, Q_gf, E_10, E_11, E_12, E_14⟩ hb_ hon hoff
    refine ⟨_, rfl, fun K hK => ?_⟩
    have e11 : a'.tmps[11]? = some (.pointer (some ⟨g1, 0, none⟩)) := by rw [ha]; exact (putSel_off rfl).trans rfl
    replace ha := Aside0.mk ha
    have hc0_ : w'.cell? ⟨g1, 0, none⟩ = some (.int .i64 n1) := (blk_cell Q_G 0).trans rfl
    have hc1_ : w'.cell? ⟨g1, 1, none⟩ = some (.slice A1 l1.length c1) := (blk_cell Q_G 1).trans rfl
    refine value_ (w1 := w') (v := .agg #[.int .i64 n1, .slice A1 l1.length c1]) (by rfl) rfl ?_ ?_
    ·go_simp
     (try simp only [i64_w])
     try rfl
    exact hK.out _ _ ⟨vn, gb, m10, m11, m12, m14, (by rw [ha.out]; exact putSel_upk 0 hb_ rfl rfl rfl), Q_D, Q_Z, Q_G, Q_U, Q_K, Q_B, Q_V, Q_N, Q_g, Q_gz, Q_gf, E_10, E_11, E_12, E_14⟩
   refine steps_cons ?_ ?_
   ·rintro b_ a' w' ⟨vn, gb, m10, m11, m12, m14, ha, Q_D, Q_Z, Q_G, Q_U, Q_K, Q_B, Q_V, Q_N, Q_g, Q_gz, Q_gf, E_10, E_11, E_12, E_14⟩ hb_ hon hoff
    refine ⟨_, rfl, fun K hK => ?_⟩
    have e4 : a'.tmps[4]? = some (.pointer (some ⟨g0, 0, none⟩)) := by rw [ha]; exact (putSel_off rfl).trans rfl
    replace ha := Aside0.mk ha
    have hc0_ : w'.cell? ⟨g0, 0, none⟩ = some (.int .i64 a0) := (blk_cell Q_D 0).trans rfl
    have hc1_ : w'.cell? ⟨g0, 1, none⟩ = some (.slice A l.length c) := (blk_cell Q_D 1).trans rfl
    refine value_ (w1 := w') (v := .agg #[.int .i64 a0, .slice A l.length c]) (by rfl) rfl ?_ ?_
    ·go_simp
     (try simp only [i64_w])
     try rfl
    exact hK.out _ _ ⟨vn, gb, m10, m11, m12, m14, (by rw [ha.out]; exact putSel_upk 1 hb_ rfl rfl rfl), Q_D, Q_Z, Q_G, Q_U, Q_K, Q_B, Q_V, Q_N, Q_g, Q_gz, Q_gf, E_10, E_11, E_12, E_14⟩
   refine steps_cons ?_ ?_
   ·rintro b_ a' w' ⟨vn, gb, m10, m11, m12, m14, ha, Q_D, Q_Z, Q_G, Q_U, Q_K, Q_B, Q_V, Q_N, Q_g, Q_gz, Q_gf, E_10, E_11, E_12, E_14⟩ hb_ hon hoff
    refine ⟨_, rfl, fun K hK => ?_⟩
    have e4 : a'.tmps[4]? = some (.pointer (some ⟨g0, 0, none⟩)) := by rw [ha]; exact (putSel_off rfl).trans rfl
    replace ha := Aside0.mk ha
    have hc0_ : w'.cell? ⟨g0, 0, none⟩ = some (.int .i64 a0) := (blk_cell Q_D 0).trans rfl
    have hc1_ : w'.cell? ⟨g0, 1, none⟩ = some (.slice A l.length c) := (blk_cell Q_D 1).trans rfl
    refine value_ (w1 := w') (v := .agg #[.int .i64 a0, .slice A l.length c]) (by rfl) rfl ?_ ?_
    ·go_simp
     (try simp only [i64_w])
     try rfl
    exact hK.out _ _ ⟨vn, gb, m10, m11, m12, m14, (by rw [ha.out]; exact putSel_upk 2 hb_ rfl rfl rfl), Q_D, Q_Z, Q_G, Q_U, Q_K, Q_B, Q_V, Q_N, Q_g, Q_gz, Q_gf, E_10, E_11, E_12, E_14⟩
   refine steps_cons ?_ ?_
   ·rintro b_ a' w' ⟨vn, gb, m10, m11, m12, m14, ha, Q_D, Q_Z, Q_G, Q_U, Q_K, Q_B, Q_V, Q_N, Q_g, Q_gz, Q_gf, E_10, E_11, E_12, E_14⟩ hb_ hon hoff
    refine ⟨_, rfl, fun K hK => ?_⟩
    have e91 : a'.tmps[91]? = some (.agg #[.int .i64 a0, .slice A l.length c]) := by rw [ha]; exact putSel_on (e := (2, 91, .agg #[.int .i64 a0, .slice A l.length c])) 1 rfl rfl (hon 2 (by kernel_rfl)) rfl
    have e92 : a'.tmps[92]? = some (.int .i64 a) := by rw [ha]; exact (putSel_off rfl).trans rfl
    have e93 : a'.tmps[93]? = some (.int .i64 v) := by rw [ha]; exact (putSel_off rfl).trans rfl
    replace ha := Aside0.mk ha
    refine goes_ Try.func94 (by kernel_rfl) rfl #[.agg #[.int .i64 a0, .slice A l.length c], .int .i64 a, .int .i64 v, .int .i64 1] (by rfl) rfl rfl (by first | (simp only [List.map_toArray, List.map_cons, List.map_nil, Act.eval, Array.getD_eq_getD_getElem?, Option.getD_some, e91, e92, e93]; done) | (simp only [List.map_toArray, List.map_cons, List.map_nil, Act.eval, Array.getD_eq_getD_getElem?, Option.getD_some, e91, e92, e93]; rfl)) ?_
    with_reducible refine (spec_l8At.calls a0 A c l a v 1 x2 _ (Kd.R_reads' Q_U).2.2 (Kd.R_reads' Q_U).2.1 HX2.out).mono ?_
    rintro e w9 ⟨rfl, hb⟩
    exact ⟨_, rfl, hK.out _ _ ⟨vn, gb, m10, m11, m12, m14, (by rw [ha.out]; exact putSel_upk 3 hb_ rfl rfl rfl), blk_below Q_D hb, blk_below Q_Z hb, blk_below Q_G hb, Kd.R_below Q_U hb, Q_K.below hb, below_then Q_B Q_B.size hb, fun h_ => ⟨Kd.R_below (Q_V h_).1 hb, (Q_V h_).2.below hb⟩, fun h_ => ⟨Kd.R_below (Q_N h_).1 hb, (Q_N h_).2.below hb⟩, Q_g, fun h1 h2 => blk_below (Q_gz h1 h2) hb, fun h_ => blk_below (Q_gf h_) hb, E_10, E_11, E_12, E_14⟩⟩
   refine steps_cons ?_ ?_
   ·rintro b_ a' w' ⟨vn, gb, m10, m11, m12, m14, ha, Q_D, Q_Z, Q_G, Q_U, Q_K, Q_B, Q_V, Q_N, Q_g, Q_gz, Q_gf, E_10, E_11, E_12, E_14⟩ hb_ hon hoff
    refine ⟨_, rfl, fun K hK => ?_⟩
    have e95 : a'.tmps[95]? = some (.agg #[.int .i64 a0, .slice A l.length c]) := by rw [ha]; exact putSel_on (e := (6, 95, .agg #[.int .i64 a0, .slice A l.length c])) 2 rfl rfl (hon 6 (by kernel_rfl)) rfl
    have e96 : a'.tmps[96]? = some (.int .i64 b) := by rw [ha]; exact (putSel_off rfl).trans rfl
    have e97 : a'.tmps[97]? = some (.int .i64 v) := by rw [ha]; exact (putSel_off rfl).trans rfl
    replace ha := Aside0.mk ha
    refine goes_ Try.func94 (by kernel_rfl) rfl #[.agg #[.int .i64 a0, .slice A l.length c], .int .i64 b, .int .i64 v, .int .i64 1] (by rfl) rfl rfl (by first | (simp only [List.map_toArray, List.map_cons, List.map_nil, Act.eval, Array.getD_eq_getD_getElem?, Option.getD_some, e95, e96, e97]; done) | (simp only [List.map_toArray, List.map_cons, List.map_nil, Act.eval, Array.getD_eq_getD_getElem?, Option.getD_some, e95, e96, e97]; rfl)) ?_
    with_reducible refine (spec_l8At.calls a0 A c l b v 1 y2 _ (Kd.R_reads' Q_U).2.2 (Kd.R_reads' Q_U).2.1 HY2.out).mono ?_
    rintro e w9 ⟨rfl, hb⟩
    exact ⟨_, rfl, hK.out _ _ ⟨vn, gb, m10, m11, m12, m14, (by rw [ha.out]; exact putSel_upk 4 hb_ rfl rfl rfl), blk_below Q_D hb, blk_below Q_Z hb, blk_below Q_G hb, Kd.R_below Q_U hb, Q_K.below hb, below_then Q_B Q_B.size hb, fun h_ => ⟨Kd.R_below (Q_V h_).1 hb, (Q_V h_).2.below hb⟩, fun h_ => ⟨Kd.R_below (Q_N h_).1 hb, (Q_N h_).2.below hb⟩, Q_g, fun h1 h2 => blk_below (Q_gz h1 h2) hb, fun h_ => blk_below (Q_gf h_) hb, E_10, E_11, E_12, E_14⟩⟩
   refine steps_cons ?_ ?_
   ·rintro b_ a' w' ⟨vn, gb, m10, m11, m12, m14, ha, Q_D, Q_Z, Q_G, Q_U, Q_K, Q_B, Q_V, Q_N, Q_g, Q_gz, Q_gf, E_10, E_11, E_12, E_14⟩ hb_ hon hoff
    refine ⟨_, rfl, fun K hK => ?_⟩
    have e89 : a'.tmps[89]? = some (.agg #[.int .i64 n1, .slice A1 l1.length c1]) := by rw [ha]; exact putSel_on (e := (0, 89, .agg #[.int .i64 n1, .slice A1 l1.length c1])) 0 rfl rfl (hon 0 (by kernel_rfl)) rfl
    have e90 : a'.tmps[90]? = some (.int .i64 op) := by rw [ha]; exact (putSel_off rfl).trans rfl
    have e94 : a'.tmps[94]? = some (.int .i64 x2) := by rw [ha]; exact putSel_on (e := (5, 94, .int .i64 x2)) 3 rfl rfl (hon 5 (by kernel_rfl)) rfl
    have e98 : a'.tmps[98]? = some (.int .i64 y2) := by rw [ha]; exact putSel_on (e := (9, 98, .int .i64 y2)) 4 rfl rfl (hon 9 (by kernel_rfl)) rfl
    replace ha := Aside0.mk ha
    refine goes_ Try.func104 (by kernel_rfl) rfl #[.agg #[.int .i64 n1, .slice A1 l1.length c1], .int .i64 op, .int .i64 x2, .int .i64 y2] (by rfl) rfl rfl (by first | (simp only [List.map_toArray, List.map_cons, List.map_nil, Act.eval, Array.getD_eq_getD_getElem?, Option.getD_some, e89, e90, e94, e98]; done) | (simp only [List.map_toArray, List.map_cons, List.map_nil, Act.eval, Array.getD_eq_getD_getElem?, Option.getD_some, e89, e90, e94, e98]; rfl)) ?_
    have QV_ := Q_V hb_
    with_reducible refine (IH.out n1 (Value.slice A1 l1.length c1) l1 op x2 y2 n2 l2 hi w0 _ Q_B QV_.1 P2.out).mono ?_
    rintro e w9 ⟨vN, rfl, q1_, q2_, q3_, q4_⟩
    exact ⟨_, rfl, hK.out _ _ ⟨vN, gb, .tuple #[.agg #[.int .i64 n2, vN], .int .i64 hi], m11, m12, m14, (by rw [ha.out]; exact putSel_upk 5 hb_ rfl rfl rfl), blk_kept Q_D q3_ (spec_l8Do.own_ne QV_.1 Q_D), blk_kept Q_Z q3_ (spec_l8Do.own_ne QV_.1 Q_Z), blk_kept Q_G q3_ (spec_l8Do.own_ne QV_.1 Q_G), (q4_ _ _ _ Q_U (QV_.2 _ _ _ HR.out (Ap.Pre.refl HR.out)).2).1, Q_K.then_ q3_ VG8.out, q2_, fun h_ => absurd ((up_self b_ 10).symm.trans h_) (by decide), fun _ => ⟨Kd.R_mono q1_ (fun k_ hk => hk.elim (VG8.out k_) (fun h_ => .inr (Nat.le_trans Q_K.1 h_))), QV_.2.trans q4_⟩, Q_g, fun h1 h2 => blk_kept (Q_gz h1 h2) q3_ (spec_l8Do.own_ne QV_.1 (Q_gz h1 h2)), fun h_ => absurd ((hoff 15 (by kernel_rfl)).symm.trans h_) (by decide), fun _ => rfl, fun h_ => absurd ((hoff 11 (by kernel_rfl)).symm.trans h_) (by decide), fun h_ => absurd ((hoff 12 (by kernel_rfl)).symm.trans h_) (by decide), E_14⟩⟩
   refine steps_cons ?_ ?_
   ·rintro b_ a' w' ⟨vn, gb, m10, m11, m12, m14, ha, Q_D, Q_Z, Q_G, Q_U, Q_K, Q_B, Q_V, Q_N, Q_g, Q_gz, Q_gf, E_10, E_11, E_12, E_14⟩ hb_ hon hoff
    refine ⟨_, rfl, fun K hK => ?_⟩
    obtain rfl := E_10 (hon 10 (by kernel_rfl))
    have e99 : a'.tmps[99]? = some (.tuple #[.agg #[.int .i64 n2, vn], .int .i64 hi]) := by rw [ha]; exact putSel_on (e := (10, 99, .tuple #[.agg #[.int .i64 n2, vn], .int .i64 hi])) 5 rfl rfl (hon 10 (by kernel_rfl)) rfl
    replace ha := Aside0.mk ha
    refine value_ (w1 := w') (v := .tuple #[.agg #[.int .i64 n2, vn], .int .i64 hi]) (by rfl) rfl ?_ ?_
    ·go_simp
     (try simp only [i64_w])
     try rfl
    exact hK.out _ _ ⟨vn, gb, _, .tuple #[.agg #[.int .i64 n2, vn], .int .i64 hi], m12, m14, (by rw [ha.out]; exact putSel_upk 6 hb_ rfl rfl rfl), Q_D, Q_Z, Q_G, Q_U, Q_K, Q_B, Q_V, Q_N, Q_g, Q_gz, Q_gf, fun _ => rfl, fun _ => rfl, E_12, E_14⟩
   refine steps_cons ?_ ?_
   ·rintro b_ a' w' ⟨vn, gb, m10, m11, m12, m14, ha, Q_D, Q_Z, Q_G, Q_U, Q_K, Q_B, Q_V, Q_N, Q_g, Q_gz, Q_gf, E_10, E_11, E_12, E_14⟩ hb_ hon hoff
    refine ⟨_, rfl, fun K hK => ?_⟩
    obtain rfl := E_11 (hon 11 (by kernel_rfl))
    have e88 : a'.tmps[88]? = some (.tuple #[.agg #[.int .i64 n2, vn], .int .i64 hi]) := by rw [ha]; exact putSel_on (e := (11, 88, .tuple #[.agg #[.int .i64 n2, vn], .int .i64 hi])) 6 rfl rfl (hon 11 (by kernel_rfl)) rfl
    replace ha := Aside0.mk ha
    refine value_ (w1 := w') (v := .agg #[.int .i64 n2, vn]) (by rfl) rfl ?_ ?_
    ·go_simp
     (try simp only [i64_w])
     try rfl
    exact hK.out _ _ ⟨vn, gb, m10, _, .agg #[.int .i64 n2, vn], m14, (by rw [ha.out]; exact putSel_upk 7 hb_ rfl rfl rfl), Q_D, Q_Z, Q_G, Q_U, Q_K, Q_B, Q_V, Q_N, Q_g, Q_gz, Q_gf, E_10, fun _ => rfl, fun _ => rfl, E_14⟩
   refine steps_cons ?_ ?_
   ·rintro b_ a' w' ⟨vn, gb, m10, m11, m12, m14, ha, Q_D, Q_Z, Q_G, Q_U, Q_K, Q_B, Q_V, Q_N, Q_g, Q_gz, Q_gf, E_10, E_11, E_12, E_14⟩ hb_ hon hoff
    refine ⟨_, rfl, fun K hK => ?_⟩
    obtain rfl := E_11 (hon 11 (by kernel_rfl))
    have e88 : a'.tmps[88]? = some (.tuple #[.agg #[.int .i64 n2, vn], .int .i64 hi]) := by rw [ha]; exact putSel_on (e := (11, 88, .tuple #[.agg #[.int .i64 n2, vn], .int .i64 hi])) 6 rfl rfl (hon 11 (by kernel_rfl)) rfl
    replace ha := Aside0.mk ha
    refine value_ (w1 := w') (v := .int .i64 hi) (by rfl) rfl ?_ ?_
    ·go_simp
     (try simp only [i64_w])
     try rfl
    exact hK.out _ _ ⟨vn, gb, m10, _, m12, m14, (by rw [ha.out]; exact putSel_upk 8 hb_ rfl rfl rfl), Q_D, Q_Z, Q_G, Q_U, Q_K, Q_B, Q_V, Q_N, Q_g, Q_gz, Q_gf, E_10, fun _ => rfl, E_12, E_14⟩
   refine steps_cons ?_ ?_
   ·rintro b_ a' w' ⟨vn, gb, m10, m11, m12, m14, ha, Q_D, Q_Z, Q_G, Q_U, Q_K, Q_B, Q_V, Q_N, Q_g, Q_gz, Q_gf, E_10, E_11, E_12, E_14⟩ hb_ hon hoff
    refine ⟨_, rfl, fun K hK => ?_⟩
    replace ha := Aside0.mk ha
    refine value_ (w1 := w'.alloc (.cells #[.int .i64 0, .slice none 0 0] 25 (0, 0))) (v := .pointer (some ⟨w'.heap.size, 0, none⟩)) (by rfl) rfl ?_ ?_
    ·first | (go_simp; done) | (go_simp; rfl)
    have hb := below_alloc (Below.refl w'.heap.size w') (.cells #[.int .i64 0, .slice none 0 0] 25 (0, 0))
    exact hK.out _ _ ⟨vn, w'.heap.size, m10, m11, m12, .pointer (some ⟨w'.heap.size, 0, none⟩), (by rw [ha.out]; exact putSel_upk 9 hb_ rfl rfl rfl), blk_below Q_D hb, blk_below Q_Z hb, blk_below Q_G hb, Kd.R_below Q_U hb, Q_K.below hb, below_then Q_B Q_B.size hb, fun h_ => ⟨Kd.R_below (Q_V h_).1 hb, (Q_V h_).2.below hb⟩, fun h_ => ⟨Kd.R_below (Q_N h_).1 hb, (Q_N h_).2.below hb⟩, fun _ => ⟨Q_K.1, Nat.ne_of_lt (blk_lt Q_D), Nat.ne_of_lt (blk_lt Q_Z), Nat.ne_of_lt (blk_lt Q_G)⟩, fun _ _ => blk_new _ _, fun h_ => absurd ((hoff 15 (by kernel_rfl)).symm.trans h_) (by decide), E_10, E_11, E_12, fun _ => rfl⟩
   refine steps_cons ?_ ?_
   ·rintro b_ a' w' ⟨vn, gb, m10, m11, m12, m14, ha, Q_D, Q_Z, Q_G, Q_U, Q_K, Q_B, Q_V, Q_N, Q_g, Q_gz, Q_gf, E_10, E_11, E_12, E_14⟩ hb_ hon hoff
    refine ⟨_, rfl, fun K hK => ?_⟩
    obtain rfl := E_12 (hon 12 (by kernel_rfl))
    obtain rfl := E_14 (hon 14 (by kernel_rfl))
    have G_ := Q_g (hon 14 (by kernel_rfl))
    have Z_ := Q_gz (hon 14 (by kernel_rfl)) hb_
    have h10 := hon 10 (by kernel_rfl)
    obtain ⟨A9, c9, rfl⟩ := Kd.R_slice (Q_N h10).1
    have e13 : a'.tmps[13]? = some (.pointer (some ⟨gb, 0, none⟩)) := by rw [ha]; exact putSel_on (e := (14, 13, .pointer (some ⟨gb, 0, none⟩))) 9 rfl rfl (hon 14 (by kernel_rfl)) rfl
    have e100 : a'.tmps[100]? = some (.agg #[.int .i64 n2, .slice A9 l2.length c9]) := by rw [ha]; exact putSel_on (e := (12, 100, .agg #[.int .i64 n2, .slice A9 l2.length c9])) 7 rfl rfl (hon 12 (by kernel_rfl)) rfl
    replace ha := Aside0.mk ha
    have hs0 : w'.cell? ⟨gb, 0, none⟩ = some (.int .i64 0) := (blk_cell Z_ 0).trans rfl
    have hs1 : w'.cell? ⟨gb, 1, none⟩ = some (.slice none 0 0) := (blk_cell Z_ 1).trans rfl
    have hf0 := blk_frozen Z_ 0
    have hf1 := blk_frozen Z_ 1
    have GA := Aside0.mk G_
    have ZA := Aside0.mk Z_
    have H10 := Aside0.mk h10
    replace Q_D := Aside0.mk Q_D
    replace Q_Z := Aside0.mk Q_Z
    replace Q_G := Aside0.mk Q_G
    replace Q_U := Aside0.mk Q_U
    replace Q_K := Aside0.mk Q_K
    replace Q_B := Aside0.mk Q_B
    replace Q_V := Aside0.mk Q_V
    replace Q_N := Aside0.mk Q_N
    clear G_ Z_ h10
    refine skip_ (w1 := ?_) (by rfl) rfl ?_ ?_
    rotate_left
    ·go_simp
     rfl
    exact hK.out _ _ ⟨_, gb, m10, m11, _, _, (by rw [ha.out]; exact putSel_none (v := undef) rfl), blk_far (p := ⟨gb, 1, none⟩) (blk_far (p := ⟨gb, 0, none⟩) Q_D.out GA.out.2.1 _) GA.out.2.1 _, blk_far (p := ⟨gb, 1, none⟩) (blk_far (p := ⟨gb, 0, none⟩) Q_Z.out GA.out.2.2.1 _) GA.out.2.2.1 _, blk_far (p := ⟨gb, 1, none⟩) (blk_far (p := ⟨gb, 0, none⟩) Q_G.out GA.out.2.2.2 _) GA.out.2.2.2 _, Kd.R_set (Kd.R_set Q_U.out ZA.out (by decide) 0 _) (blk_put ZA.out 0 _ rfl) (by decide) 1 _, (Q_K.out.setCell (p := ⟨gb, 0, none⟩) (.inr GA.out.1) _).setCell (p := ⟨gb, 1, none⟩) (.inr GA.out.1) _, (Q_B.out.setCell (p := ⟨gb, 0, none⟩) (Nat.le_trans HB.out.size GA.out.1) _).setCell (p := ⟨gb, 1, none⟩) (Nat.le_trans HB.out.size GA.out.1) _, fun h_ => absurd (H10.out.symm.trans h_) (by decide), fun h_ => ⟨Kd.R_set (Kd.R_set (Q_N.out h_).1 ZA.out (by decide) 0 _) (blk_put ZA.out 0 _ rfl) (by decide) 1 _, spec_l8Do.stays_set (spec_l8Do.stays_set (Q_N.out h_).2 ZA.out) (blk_put ZA.out 0 _ rfl)⟩, Q_g, fun _ h_ => absurd ((up_self b_ 15).symm.trans h_) (by decide), fun _ => blk_put (blk_put ZA.out 0 _ rfl) 1 _ rfl, E_10, E_11, fun _ => rfl, fun _ => rfl⟩
   refine steps_cons ?_ ?_
   ·rintro b_ a' w' ⟨vn, gb, m10, m11, m12, m14, ha, Q_D, Q_Z, Q_G, Q_U, Q_K, Q_B, Q_V, Q_N, Q_g, Q_gz, Q_gf, E_10, E_11, E_12, E_14⟩ hb_ hon hoff
    refine ⟨_, rfl, fun K hK => ?_⟩
    have e101 : a'.tmps[101]? = some (.int .i64 hi) := by rw [ha]; exact putSel_on (e := (13, 101, .int .i64 hi)) 8 rfl rfl (hon 13 (by kernel_rfl)) rfl
    replace ha := Aside0.mk ha
    refine value_ (w1 := w') (v := .int .i64 hi) (by rfl) rfl ?_ ?_
    ·go_simp
     (try simp only [i64_w])
     try rfl
    exact hK.out _ _ ⟨vn, gb, m10, m11, m12, m14, (by rw [ha.out]; exact putSel_upk 10 hb_ rfl rfl rfl), Q_D, Q_Z, Q_G, Q_U, Q_K, Q_B, Q_V, Q_N, Q_g, Q_gz, Q_gf, E_10, E_11, E_12, E_14⟩
   exact steps_nil
  rintro b_ a' w10 hall ⟨vn, g2, m10, m11, m12, m14, ha, Q_D, Q_Z, Q_G, Q_U, Q_K, Q_B, Q_V, Q_N, Q_g, Q_gz, Q_gf, E_10, E_11, E_12, E_14⟩
  have hb0_ := hall 0 (by kernel_rfl)
  have hb2_ := hall 2 (by kernel_rfl)
  have hb6_ := hall 6 (by kernel_rfl)
  have hb5_ := hall 5 (by kernel_rfl)
  have hb9_ := hall 9 (by kernel_rfl)
  have hb10_ := hall 10 (by kernel_rfl)
  have hb11_ := hall 11 (by kernel_rfl)
  have hb12_ := hall 12 (by kernel_rfl)
  have hb13_ := hall 13 (by kernel_rfl)
  have hb14_ := hall 14 (by kernel_rfl)
  have hb15_ := hall 15 (by kernel_rfl)
  have hb16_ := hall 16 (by kernel_rfl)
  obtain rfl := E_10 hb10_
  obtain rfl := E_11 hb11_
  obtain rfl := E_12 hb12_
  obtain rfl := E_14 hb14_
  subst ha
  simp only [putSel, hb0_, hb2_, hb6_, hb5_, hb9_, hb10_, hb11_, hb12_, hb13_, hb14_, hb15_, hb16_, if_true, Act.put, List.setIfInBounds_toArray, List.set_cons_zero, List.set_cons_succ]
  have BD10 := Aside0.mk Q_D
  have BR10 := Aside0.mk Q_Z
  have HU10 := Aside0.mk Q_U
  have HK10 := Aside0.mk Q_K
  have HB10 := Aside0.mk Q_B
  have HN10 := Aside0.mk (Q_N hb10_).1
  have HS10 := Aside0.mk (Q_N hb10_).2
  have GG10 := Aside0.mk (Q_g hb14_)
  have BG10 := Aside0.mk (Q_gf hb15_)
  clear hall hb0_ hb2_ hb6_ hb5_ hb9_ hb10_ hb11_ hb12_ hb13_ hb14_ hb15_ hb16_ Q_D Q_Z Q_G Q_U Q_K Q_B Q_V Q_N Q_g Q_gz Q_gf E_10 E_11 E_12 E_14 n0_ n1_ n2_ n3_ n4_ n5_ n6_ n7_ HT_ HW_
  obtain ⟨A2, c2, rfl⟩ := Kd.R_slice HN10.out
  have d100 : w10.cell? ⟨g2, 0, none⟩ = some (.int .i64 n2) := (blk_cell BG10.out 0).trans rfl
  have d101 : w10.cell? ⟨g2, 1, none⟩ = some (.slice A2 l2.length c2) := (blk_cell BG10.out 1).trans rfl
  have HF10 : Aside0 (∀ k_, w10.heap.size ≤ k_ → (Value.slice A l.length c).ownBlock = some k_ ∨ w.heap.size ≤ k_) := ⟨fun k_ hk => .inr (Nat.le_trans HK10.out.1 hk)⟩
  go_wp2_with (go_at_call 60; (with_reducible refine (spec_l8Add.strong n2 _ _ l2 v lo hi r1 r2 r3 w0 _ HB10.out HN10.out HF10.out H.out).mono ?_); rintro e w11 ⟨v3, rfl, s1, s2, s3, s4⟩; obtain ⟨A3, c3, rfl⟩ := Kd.R_slice s1; have BR11 := Aside0.mk (blk_kept BR10.out s3 (spec_l8Do.own_ne HN10.out BR10.out)); have HK11 := Aside0.mk (HK10.out.then_ s3 HN10.out.1); have HS11 := Aside0.mk (HS10.out.trans s4); have HN11 := Aside0.mk s1; have HB11 := Aside0.mk s2; have r110 : w11.cell? ⟨gr, 0, none⟩ = some (.int .i64 0) := (blk_cell BR11.out 0).trans rfl; have r111 : w11.cell? ⟨gr, 1, none⟩ = some (.slice none 0 0) := (blk_cell BR11.out 1).trans rfl; have q110 := blk_frozen BR11.out 0; have q111 := blk_frozen BR11.out 1; clear s1 s2 s3 s4)
  refine bodyPost_ret (results_ct rfl _ _ gr 25 #[.int .i64 r1, .slice A3 r2.length c3] (0, 0) _ rfl (blk_put (blk_put BR11.out 0 _ rfl) 1 _ rfl) Try.underlying25 rfl (by kernel_rfl)) rfl ?_
  exact ⟨_, rfl, Kd.R_set (Kd.R_set HN11.out BR11.out (by decide) 0 _) (blk_put BR11.out 0 _ rfl) (by decide) 1 _, (HB11.out.setCell (p := ⟨gr, 0, none⟩) (Nat.le_trans HB.out.size GR.out) _).setCell (p := ⟨gr, 1, none⟩) (Nat.le_trans HB.out.size GR.out) _, (HK11.out.setCell (p := ⟨gr, 0, none⟩) (.inr GR.out) _).setCell (p := ⟨gr, 1, none⟩) (.inr GR.out) _, spec_l8Do.stays_set (spec_l8Do.stays_set HS11.out BR11.out) (blk_put BR11.out 0 _ rfl)⟩
theorem spec_l8Do.strong (k : Nat) (a0 : Int) (ok : Nat → Prop) (u : Value) (l : List S71) (op a b r1 : Int) (r2 : List S71) (r3 : Int) (w0 w : World) (hB : Below w0.heap.size w0 w) (ho : Kd.R k71 71 w w0.heap.size ok u l) (hf : ∀ k_, w.heap.size ≤ k_ → ok k_) (h : spec_l8Do.f k a0 l op a b = some (r1, r2, r3)) :
  Calls Try.prog 104 #[.agg #[.int .i64 a0, u], .int .i64 op, .int .i64 a, .int .i64 b] w fun e w' => ∃ v1 : Value, e = .returned (.tuple #[.agg #[.int .i64 r1, v1], .int .i64 r3]) ∧ Kd.R k71 71 w' w0.heap.size ok v1 r2 ∧ Below w0.heap.size w0 w' ∧ Kept w w' (fun k_ => u.ownBlock = some k_) ∧ Ap.Stays k71 71 w0.heap.size w u l w' v1 r2 := by
 refine (spec_l8Do.core k a0 u l op a b r1 r2 r3 w0 w hB (Kd.R_mono (Kd.R_tight k71_E ho) (fun _ hk => hk.symm)) h).mono ?_
 rintro e w' ⟨v1, rfl, h1, h2, h3, h4⟩
 exact ⟨v1, rfl, Kd.R_mono h1 (fun k_ hk => hk.elim (ho.1 k_) (hf k_)), h2, h3, h4⟩
theorem spec_l8Do.calls (k : Nat) (a0_0 : Int) (P0_1_ : Nat → Prop) (u9000_ : Value) (l0_1 : List S71) (a1 a2 a3 r1 : Int) (r2 : List S71) (r3 : Int) (w0 w : World) (hB : Below w0.heap.size w0 w) (ho0_1 : Kd.R k71 71 w w0.heap.size P0_1_ u9000_ l0_1) (h : spec_l8Do.f k a0_0 l0_1 a1 a2 a3 = some (r1, r2, r3)) :
  Calls Try.prog 104 #[.agg #[.int .i64 a0_0, u9000_], .int .i64 a1, .int .i64 a2, .int .i64 a3] w fun e w' => ∃ v1_ : Value, e = .returned (.tuple #[.agg #[.int .i64 r1, v1_], .int .i64 r3]) ∧ Kd.R k71 71 w' w0.heap.size (fun k_ => (P0_1_ k_ ∨ w.heap.size ≤ k_)) v1_ r2 ∧ Below w0.heap.size w0 w' ∧ Kept w w' (fun k_ => P0_1_ k_) := by
 refine (spec_l8Do.strong k a0_0 (fun k_ => P0_1_ k_ ∨ w.heap.size ≤ k_) u9000_ l0_1 a1 a2 a3 r1 r2 r3 w0 w hB (Kd.R_mono ho0_1 (fun _ hk => .inl hk)) (fun _ hk => .inr hk) h).mono ?_
 rintro e w' ⟨v1, rfl, h1, h2, h3, _⟩
 exact ⟨v1, rfl, h1, h2, h3.mono (fun k_ hk => ho0_1.1 k_ hk)⟩

end Go.Proofs.Ytpcompnmadpljaa.QFnDiagramNot
