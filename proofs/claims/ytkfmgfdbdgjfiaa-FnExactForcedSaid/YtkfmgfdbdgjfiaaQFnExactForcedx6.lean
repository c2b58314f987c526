-- Written by a program of this session (mk.py). Lean checks it.
import Derived.Test.YtkfmgfdbdgjfiaaQFnExactForcedx0
import Derived.Test.YtkfmgfdbdgjfiaaQFnExactForcedx5
namespace Go.Proofs.Ytkfmgfdbdgjfiaa.QFnExactForced
open Go.RowKit Go.Proofs.YtkfmgfdbdgjfiaaW.PrintWords Go.Proofs.YtkfmgfdbdgjfiaaW.PrintLast Go.Proofs.YtkfmgfdbdgjfiaaW.PrintMore
attribute [local go_sem] max2_int min2_int max_two min_two max_three min_three max_four min_four   -- for this text's walks alone
set_option linter.unusedVariables false
set_option linter.unusedSimpArgs false

/-! ### laws_markIntSS: function 46 -/
def laws_markIntSS.l0 : Nat → List (List Int) → Int → Int → Option (Int × List (List Int))
 | 0, _, _, _ => none
 | k + 1, x0, x1, x5 => if x5 < (x0.length : Int) then (if 0 ≤ x5 then ((laws_markIntS.f k (rd_L1 x0 x5) x1).bind fun t => laws_markIntSS.l0 k (x0.set (x5 : Int).toNat t.2) t.1 (wrap64 (x5 + 1))) else none) else some (x1, x0)
def laws_markIntSS.f (k : Nat) (l0 : List (List Int)) (a1 : Int) : Option (Int × List (List Int)) := laws_markIntSS.l0 k l0 a1 0
theorem laws_markIntSS.mono_l : ∀ k x0 x1 x5, LeO (laws_markIntSS.l0 k x0 x1 x5) (laws_markIntSS.l0 (k + 1) x0 x1 x5)
 | 0 => fun _ _ _ r h => by simp [laws_markIntSS.l0] at h
 | k + 1 => fun x0 x1 x5 => by
  have ih := laws_markIntSS.mono_l k
  unfold laws_markIntSS.l0
  exact LeO.ite (LeO.ite (LeO.bind (laws_markIntS.mono _ _ k) (fun _ => ih _ _ _)) (LeO.refl _)) (LeO.refl _)
theorem laws_markIntSS.mono : ∀ a0 a1 k, LeO (laws_markIntSS.f k a0 a1) (laws_markIntSS.f (k + 1) a0 a1) := fun a0 a1 k => laws_markIntSS.mono_l k a0 a1 0
set_option maxHeartbeats 4000000 in
set_option maxRecDepth 100000 in
theorem laws_markIntSS.calls (k : Nat) (P0_ : Nat → Prop) (u9000_ : Value) (l0 : List (List Int)) (a1 : Int) (r1 : Int) (r2 : List (List Int)) (w0 w : World) (hB : Below w0.heap.size w0 w) (ho0 : Kd.S (Kd.slice 3 (Kd.int .i64)) 25 w w0.heap.size P0_ u9000_ l0) (h : laws_markIntSS.f k l0 a1 = some (r1, r2)) :
  Calls Try.prog 46 #[u9000_, .int .i64 a1] w fun e w' => e = .returned (.int .i64 r1) ∧ Kd.S (Kd.slice 3 (Kd.int .i64)) 25 w' w0.heap.size P0_ u9000_ r2 ∧ Below w0.heap.size w0 w' ∧ Kept w w' (fun k_ => P0_ k_) := by
 obtain ⟨A0, c0, rfl⟩ := Kd.S_slice ho0
 have hlen : l0.length ≤ 9223372036854775807 := (Kd.R_reads' (Kd.S_R ho0)).2.2.2.1
 have HO0 := Aside0.mk ho0
 have HB0 := Aside0.mk hB
 have HSZ := Aside0.mk hB.size
 unfold laws_markIntSS.f at h
 have H0 := Aside0.mk h
 clear hB ho0 h
 go_enter Try.func46, Try.ntmps46
 go_wp2
 go_loopg [1, 5] k (fun gg s1 s5 wr => ∃ (kv kk : Int) (xs : List (List Int)), s1 = .int .i64 kv ∧ s5 = .int .i64 kk ∧ Aside0 (gg ≤ k) ∧ xs.length = l0.length ∧ Aside0 (laws_markIntSS.l0 gg xs kv kk = some (r1, r2)) ∧ Aside0 (Kd.S (Kd.slice 3 (Kd.int .i64)) 25 wr w0.heap.size P0_ (.slice A0 l0.length c0) xs) ∧ Aside0 (Below w0.heap.size w0 wr) ∧ Aside0 (Kept w wr (fun k_ => P0_ k_)))
 case atStart => exact ⟨a1, 0, l0, rfl, rfl, ⟨Nat.le_refl _⟩, rfl, H0, HO0, HB0, ⟨Kept.refl _ _⟩⟩
 case round =>
  clear H0 HO0 HB0
  obtain ⟨kv, kk, xs, rfl, rfl, HG, hxl, HA, HO, HB, HK⟩ := hrel
  cases gk with
  | zero => exact absurd HA.out (by simp [laws_markIntSS.l0])
  | succ k1 =>
   have H := HA.out
   clear HA
   simp only [laws_markIntSS.l0] at H
   by_cases c1 : kk < (xs.length : Int)
   ·rw [if_pos c1] at H
    by_cases c2 : 0 ≤ kk
    ·rw [if_pos c2] at H
     obtain ⟨⟨t1, t2⟩, h1, h2⟩ := Option.bind_eq_some_iff.mp H
     have hlt : kk < (l0.length : Int) := by rw [← hxl]; exact c1
     have hltb : decide (kk < (l0.length : Int)) = true := decide_eq_true hlt
     obtain ⟨go, c0_, eo, gb, gl, cells, hg⟩ := Kd.R_form (Kd.S_R HO.out) (by omega)
     rw [hxl] at eo
     cases eo
     obtain ⟨oki, c, hcl, ⟨v, rfl, hR⟩, hcc, hfr, hoki, hH⟩ := Kd.S_elem HO.out [] kk c2 hlt
     have hx0 : wr.cell? ⟨go, kk.toNat, none⟩ = some v := by
      have := hcc 0 v rfl
      rwa [show kk.toNat * (Kd.slice 3 (Kd.int .i64)).sz + 0 = kk.toNat by show kk.toNat * 1 + 0 = kk.toNat; omega] at this
     have hcall := Aside0.mk (laws_markIntS.calls k1 oki v (rd_L1 xs kk) kv t1 t2 w0 wr HB.out hR h1)
     have HH := Aside0.mk hH
     have HOK := Aside0.mk hoki
     have HRo := Aside0.mk hR.1
     have H2 := Aside0.mk h2
     have C2 := Aside0.mk c2
     replace c2 := eq_true c2
     clear hH hoki hR h1 h2 H hcc hfr hg gb gl hcl c1
     go_wp2_with (go_at_call 20; refine hcall.out.mono ?_; rintro e w' ⟨rfl, hR2, hB2, hK2⟩; have HR2 := Aside0.mk hR2; have HB2 := Aside0.mk hB2; have HK2 := Aside0.mk hK2; clear hR2 hB2 hK2 hcall)
     go_roundg k1
     case measure => exact Nat.lt_succ_self _
     case rel =>
      have hR3 : Kd.R (Kd.int .i64) 3 w' w0.heap.size oki v t2 := Kd.R_mono (Kd.R_tight rfl HR2.out) (fun k_ hk_ => HRo.out k_ hk_.symm)
      have hS3 := Kd.H_back (Kd.H_step HH.out (fun k_ _ hn hl => HK2.out.2 k_ hl hn)) (x' := t2) ⟨v, rfl, hR3⟩ (fun _ hk_ => hk_)
      exact ⟨t1, wrap64 (kk + 1), xs.set kk.toNat t2, rfl, rfl, ⟨by have := HG.out; omega⟩, by rw [List.length_set]; exact hxl, H2, ⟨hS3⟩, HB2, ⟨HK.out.then_ HK2.out (fun k_ hk_ => .inl (HOK.out k_ hk_).1)⟩⟩
    ·rw [if_neg c2] at H
     exact absurd H (by simp)
   ·rw [if_neg c1] at H
    have hltb : decide (kk < (l0.length : Int)) = false := decide_eq_false (by rw [← hxl]; exact c1)
    obtain ⟨rfl, rfl⟩ := Prod.mk.inj (Option.some.inj H)
    clear H
    go_wp2
    go_ret
    exact ⟨rfl, HO.out, HB.out, HK.out⟩

/-! ### laws_markClauses: function 19 -/
def laws_markClauses.f (k : Nat) (a0_0 : Int) (l0_1 : List (List Int)) (a1 : Int) : Option Int := (laws_markIntSS.f k l0_1 a1).bind fun t => some t.1
theorem laws_markClauses.mono : ∀ a0 a1 a2 k, LeO (laws_markClauses.f k a0 a1 a2) (laws_markClauses.f (k + 1) a0 a1 a2) := fun _ a1 a2 k => LeO.bind (laws_markIntSS.mono a1 a2 k) (fun _ => LeO.refl _)
set_option maxHeartbeats 4000000 in
set_option maxRecDepth 100000 in
theorem laws_markClauses.calls (k : Nat) (P0_ : Nat → Prop) (u_ : Value) (a0_0 : Int) (l0_1 : List (List Int)) (a1 : Int) (r : Int) (w0 w : World) (hB : Below w0.heap.size w0 w) (ho0 : Kd.S (Kd.slice 3 (Kd.int .i64)) 25 w w0.heap.size P0_ u_ l0_1) (h : laws_markClauses.f k a0_0 l0_1 a1 = some r) :
  Calls Try.prog 19 #[.agg #[.int .i64 a0_0, u_], .int .i64 a1] w fun e w' => e = .returned (.int .i64 r) ∧ (∃ M_ : List (List Int), Kd.S (Kd.slice 3 (Kd.int .i64)) 25 w' w0.heap.size P0_ u_ M_) ∧ Below w0.heap.size w0 w' ∧ Kept w w' (fun k_ => P0_ k_) := by
 obtain ⟨A0, c0, rfl⟩ := Kd.S_slice ho0
 have hu_ := Try.underlying29
 obtain ⟨⟨r1, r2⟩, h1, h2⟩ := Option.bind_eq_some_iff.mp h
 obtain rfl := Option.some.inj h2
 have hsz := hB.size
 have HC := Aside0.mk (laws_markIntSS.calls k P0_ (.slice A0 l0_1.length c0) l0_1 a1 r1 r2 w0 (w.alloc (.cells #[.int .i64 a0_0, .slice A0 l0_1.length c0] 29)) (hB.alloc hsz _) (Kd.S_alloc ho0 _) h1)
 clear hB ho0 h h1 h2
 go_enter Try.func19, Try.ntmps19
 go_wp2_with (go_at_call 46; refine HC.out.mono ?_; rintro e w' ⟨rfl, HS1, HB1, HK1⟩)
 go_ret
 exact ⟨rfl, ⟨_, HS1⟩, HB1, (Kept.alloc (Kept.refl _ _) _).then_ HK1 (fun _ hk_ => .inl hk_)⟩

/-! ### laws_heldIntS: function 21 -/
def laws_heldIntS.l0 : Nat → List Int → Int → Int → Option (Int)
 | 0, _, _, _ => none
 | k + 1, x0, x1, x5 => if x5 < (x0.length : Int) then (if 0 ≤ x5 then (if (rd x0 x5) = x1 then (laws_heldIntS.l0 k x0 (wrap64 (x1 + 1)) (wrap64 (x5 + 1))) else (some (-1))) else (none)) else (some x1)
def laws_heldIntS.f (k : Nat) (l0 : List Int) (a1 : Int) : Option (Int) := laws_heldIntS.l0 k l0 a1 0
theorem laws_heldIntS.mono_l : ∀ k, (∀ y0 y1 y2, LeO (laws_heldIntS.l0 k y0 y1 y2) (laws_heldIntS.l0 (k + 1) y0 y1 y2))
 | 0 => fun _ _ _ r h => by simp [laws_heldIntS.l0] at h
 | k + 1 => by
  have ih0 := laws_heldIntS.mono_l k
  ·intro y0 y1 y2
   unfold laws_heldIntS.l0
   repeat' first
   | (with_reducible exact ih0 _ _ _)
   | (with_reducible exact LeO.refl _)
   | (with_reducible exact LeO.none _)
   | (with_reducible refine LeO.ite ?_ ?_)
   | (with_reducible refine LeO.bind ?_ (fun _ => ?_))
   | exact ih0 _ _ _
   | exact LeO.none _
   | refine LeO.ite ?_ ?_
   | refine LeO.bind ?_ (fun _ => ?_)
theorem laws_heldIntS.mono : ∀ a0 a1 k, LeO (laws_heldIntS.f k a0 a1) (laws_heldIntS.f (k + 1) a0 a1) := by
 intro a0 a1 k
 have ih0 := laws_heldIntS.mono_l k
 unfold laws_heldIntS.f
 repeat' first
   | (with_reducible exact ih0 _ _ _)
   | (with_reducible exact LeO.refl _)
   | (with_reducible exact LeO.none _)
   | (with_reducible refine LeO.ite ?_ ?_)
   | (with_reducible refine LeO.bind ?_ (fun _ => ?_))
   | exact ih0 _ _ _
   | exact LeO.none _
   | refine LeO.ite ?_ ?_
   | refine LeO.bind ?_ (fun _ => ?_)
set_option maxHeartbeats 8000000 in
set_option maxRecDepth 100000 in
theorem laws_heldIntS.calls (k : Nat) (A0 : Option Addr) (c0 : Nat) (l0 : List Int) (a1 : Int) (r : Int) (w : World) (hr0 : Kd.C (Kd.int .i64) w A0 l0.length l0) (hc0 : l0.length ≤ c0) (h : laws_heldIntS.f k l0 a1 = some r) :
  Calls Try.prog 21 #[.slice A0 l0.length c0, .int .i64 a1] w fun e w' => e = .returned (.int .i64 r) ∧ Drawn0 w w' := by
 have HR0 := Aside0.mk hr0
 have HC0 := Aside0.mk hc0
 clear hr0 hc0
 have H : (laws_heldIntS.l0 k l0 a1 0) = some r := h
 clear h
 have H' := Aside0.mk H
 clear H
 go_enter Try.func21, Try.ntmps21
 go_wp2
 go_loopg [1, 5] k (fun kq v1 v5 w' => ∃ (x1_1 : Int) (x5_1 : Int), v1 = .int .i64 x1_1 ∧ v5 = .int .i64 x5_1 ∧ Aside0 (laws_heldIntS.l0 kq l0 x1_1 x5_1 = some r) ∧ Aside0 (kq ≤ k) ∧ Drawn0 w w')
 case atStart => exact ⟨(a1), (0), (by first | rfl | (simp; done) | (simp [*]; done)), (by first | rfl | (simp; done) | (simp [*]; done)), H', ⟨Nat.le_refl _⟩, by repeat (first | exact Drawn0.refl _ | apply Drawn0.step)⟩
 case round =>
  clear H'
  try clear c2
  try clear p2
  obtain ⟨x1_1, x5_1, rfl, rfl, HA, HK1, ⟨m1, rfl⟩⟩ := hrel
  cases gk with
  | zero => exact absurd HA.out (by simp [laws_heldIntS.l0])
  | succ k1 =>
   have H := HA.out
   clear HA
   simp only [laws_heldIntS.l0] at H
   by_cases c3 : x5_1 < (l0.length : Int)
   ·rw [if_pos c3] at H
    have c3b0 : decide (x5_1 < (l0.length : Int)) = true := decide_eq_true c3
    clear c3
    by_cases c4 : 0 ≤ x5_1
    ·rw [if_pos c4] at H
     have c4b0 : decide (0 ≤ x5_1) = true := decide_eq_true c4
     clear c4
     by_cases c5 : (rd l0 x5_1) = x1_1
     ·rw [if_pos c5] at H
      have c5b0 : ((rd l0 x5_1) == x1_1) = true := beq_iff_eq.mpr c5
      have c5b1 : ((rd l0 x5_1) != x1_1) = false := bne_eq_false_iff_eq.mpr c5
      clear c5
      have H' := Aside0.mk H
      clear H
      have p216 : 0 ≤ (x5_1 : Int) := of_decide_eq_true (by first | (with_reducible assumption) | assumption)
      have q216 : x5_1 < (l0.length : Int) := of_decide_eq_true (by first | (with_reducible assumption) | assumption)
      obtain ⟨ad216, e216, hx216_0⟩ := Kd.at_int HR0.out x5_1 p216 q216
      cases e216
      replace p216 := eq_true p216
      replace q216 := eq_true q216
      go_wp2
      go_roundg k1
      case measure => have := HK1.out; omega
      case rel => exact ⟨(wrap64 (x1_1 + 1)), (wrap64 (x5_1 + 1)), (by first | rfl | (simp; done) | (simp [*]; done)), (by first | rfl | (simp; done) | (simp [*]; done)), H', ⟨by have := HK1.out; omega⟩, by repeat (first | exact Drawn0.refl _ | apply Drawn0.step)⟩
     ·rw [if_neg c5] at H
      have c5b0 : ((rd l0 x5_1) == x1_1) = false := beq_eq_false_iff_ne.mpr c5
      have c5b1 : ((rd l0 x5_1) != x1_1) = true := bne_iff_ne.mpr c5
      obtain rfl := Option.some.inj H
      have p216 : 0 ≤ (x5_1 : Int) := of_decide_eq_true (by first | (with_reducible assumption) | assumption)
      have q216 : x5_1 < (l0.length : Int) := of_decide_eq_true (by first | (with_reducible assumption) | assumption)
      obtain ⟨ad216, e216, hx216_0⟩ := Kd.at_int HR0.out x5_1 p216 q216
      cases e216
      replace p216 := eq_true p216
      replace q216 := eq_true q216
      go_wp2
      go_ret
      exact ⟨by first | rfl | (simp; done) | (simp [*]; done), by repeat (first | exact Drawn0.refl _ | apply Drawn0.step)⟩
    ·rw [if_neg c4] at H
     exact absurd H (by simp)
   ·rw [if_neg c3] at H
    have c3b0 : decide (x5_1 < (l0.length : Int)) = false := decide_eq_false c3
    clear c3
    obtain rfl := Option.some.inj H
    go_wp2
    go_ret
    exact ⟨by first | rfl | (simp; done) | (simp [*]; done), by repeat (first | exact Drawn0.refl _ | apply Drawn0.step)⟩

end Go.Proofs.Ytkfmgfdbdgjfiaa.QFnExactForced
