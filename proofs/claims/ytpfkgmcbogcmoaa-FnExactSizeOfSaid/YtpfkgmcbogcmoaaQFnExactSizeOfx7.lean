-- Written by a program of this session (mk.py). Lean checks it.
import Derived.Test.YtpfkgmcbogcmoaaQFnExactSizeOfx0
import Derived.Test.YtpfkgmcbogcmoaaQFnExactSizeOfx6
namespace Go.Proofs.Ytpfkgmcbogcmoaa.QFnExactSizeOf
open Go.RowKit Go.Proofs.YtpfkgmcbogcmoaaW.PrintWords Go.Proofs.YtpfkgmcbogcmoaaW.PrintLast Go.Proofs.YtpfkgmcbogcmoaaW.PrintMore
attribute [local go_sem] max2_int min2_int max_two min_two max_three min_three max_four min_four   -- for this text's walks alone
set_option linter.unusedVariables false
set_option linter.unusedSimpArgs false

/-! ### laws_toRuleS: function 79 -/
def laws_toRuleS.l0 : Nat → List (S131) → List (S109) → Int → Option ((List (S109)))
 | 0, _, _, _ => none
 | k + 1, x0, x3, x4 => if x4 < (x0.length : Int) then (if 0 ≤ x4 then ((laws_toRule.f k ((rd_T131 x0 x4).f0) ((rd_T131 x0 x4).f1) ((rd_T131 x0 x4).f2)).bind fun bt213 => (if x4 < (x3.length : Int) then (laws_toRuleS.l0 k x0 (x3.set (x4 : Int).toNat (⟨bt213.1, bt213.2.1, bt213.2.2⟩ : S109)) (wrap64 (x4 + 1))) else (none))) else (none)) else (some x3)
def laws_toRuleS.f (k : Nat) (l0 : List (S131)) : Option ((List (S109))) := if 0 ≤ (l0.length : Int) then (if ((l0.length : Int) : Int).toNat ≤ 3909374676536 then (laws_toRuleS.l0 k l0 (List.replicate ((l0.length : Int) : Int).toNat z109) 0) else (none)) else (none)
theorem laws_toRuleS.mono_l : ∀ k, (∀ y0 y1 y2, LeO (laws_toRuleS.l0 k y0 y1 y2) (laws_toRuleS.l0 (k + 1) y0 y1 y2))
 | 0 => fun _ _ _ r h => by simp [laws_toRuleS.l0] at h
 | k + 1 => by
  have ih0 := laws_toRuleS.mono_l k
  ·intro y0 y1 y2
   unfold laws_toRuleS.l0
   repeat' first
   | (with_reducible exact ih0 _ _ _)
   | (with_reducible exact laws_toRule.mono _ _ _ _)
   | (with_reducible exact LeO.refl _)
   | (with_reducible exact LeO.none _)
   | (with_reducible refine LeO.ite ?_ ?_)
   | (with_reducible refine LeO.bind ?_ (fun _ => ?_))
   | exact ih0 _ _ _
   | exact laws_toRule.mono _ _ _ _
   | exact LeO.none _
   | refine LeO.ite ?_ ?_
   | refine LeO.bind ?_ (fun _ => ?_)
theorem laws_toRuleS.mono : ∀ a0 k, LeO (laws_toRuleS.f k a0) (laws_toRuleS.f (k + 1) a0) := by
 intro a0 k
 have ih0 := laws_toRuleS.mono_l k
 unfold laws_toRuleS.f
 repeat' first
   | (with_reducible exact ih0 _ _ _)
   | (with_reducible exact laws_toRule.mono _ _ _ _)
   | (with_reducible exact LeO.refl _)
   | (with_reducible exact LeO.none _)
   | (with_reducible refine LeO.ite ?_ ?_)
   | (with_reducible refine LeO.bind ?_ (fun _ => ?_))
   | exact ih0 _ _ _
   | exact laws_toRule.mono _ _ _ _
   | exact LeO.none _
   | refine LeO.ite ?_ ?_
   | refine LeO.bind ?_ (fun _ => ?_)
set_option maxHeartbeats 8000000 in
set_option maxRecDepth 100000 in
theorem laws_toRuleS.calls (k : Nat) (A0 : Option Addr) (c0 : Nat) (l0 : List (S131)) (r : List (S109)) (w : World) (hr0 : Kd.C k131 w A0 l0.length l0) (hc0 : l0.length ≤ c0) (h : laws_toRuleS.f k l0 = some r) :
  Calls Try.prog 79 #[.slice A0 l0.length c0] w fun e w' => ∃ v0_ : Value, e = .returned (v0_) ∧ Kd.R k109 109 w' w.heap.size (fun _ => True) v0_ r ∧ Below w.heap.size w w' := by
 have hu131 := Try.underlying131
 have hu109 := Try.underlying109
 have HR0 := Aside0.mk hr0
 have HC0 := Aside0.mk hc0
 clear hr0 hc0
 have HB := Aside0.mk (Below.refl w.heap.size w)
 have H : (if 0 ≤ (l0.length : Int) then (if ((l0.length : Int) : Int).toNat ≤ 3909374676536 then (laws_toRuleS.l0 k l0 (List.replicate ((l0.length : Int) : Int).toNat z109) 0) else (none)) else (none)) = some r := h
 clear h
 by_cases c2 : 0 ≤ (l0.length : Int)
 ·rw [if_pos c2] at H
  have c2b0 := eq_true c2
  have c2b1 : decide (0 ≤ (l0.length : Int)) = true := decide_eq_true c2
  clear c2
  by_cases c3 : ((l0.length : Int) : Int).toNat ≤ 3909374676536
  ·rw [if_pos c3] at H
   have c3b0 := eq_true c3
   have c3b1 : decide (((l0.length : Int) : Int).toNat ≤ 3909374676536) = true := decide_eq_true c3
   clear c3
   obtain ⟨y209, hy209⟩ : ∃ y_ : List (S109), y_ = (List.replicate ((l0.length : Int) : Int).toNat z109) := ⟨_, rfl⟩
   replace H : (laws_toRuleS.l0 k l0 y209 0) = some r := by first | (rw [hy209]; with_reducible exact H) | (have H2_ := (Option.bind_some _ _).symm.trans H; rw [hy209]; with_reducible exact H2_) | (have H2_ := (Option.bind_some _ _).symm.trans H; with_reducible exact H2_) | with_reducible exact H | (rw [hy209]; exact H) | exact H
   have Ny209 := Aside0.mk hy209
   clear hy209
   have H' := Aside0.mk H
   clear H
   go_enter Try.func79, Try.ntmps79
   go_wp2_with (first | ((with_reducible refine gate_dst (N := 7) rfl ?_); refine Kd.R_make k109 _ 109 rfl (N := 7) rfl 56 _ _ rfl (l0.length : Int) rfl rfl Try.underlying56 (.agg #[(.slice none 0 0), (.slice none 0 0), (.slice none 0 0)]) 72 info109 rfl (by decide) (by omega) z109 (ok := fun _ => True) (okp := fun _ => True) (k109_mkM _ _ _ z109 (Kd.R_nil _ _ _ _ _) (Kd.R_nil _ _ _ _ _) (Kd.R_nil _ _ _ _ _)) (fun _ hk => hk) trivial (oda) (Nat.le_trans (Nat.mul_le_mul_right _ (oda : (l0.length : Int).toNat ≤ 3909374676536)) (by omega)) (Below.refl _ _) (Nat.le_refl _) ?_; intro v210 w4 ho5 hb hg_ hnew_; clear hg_ hnew_; (first | rw [← Ny209.out] at ho5 | (simp only [Int.reduceToNat] at ho5; rw [← Ny209.out] at ho5)); have n0_ := Aside0.mk (Kd.R_lower ho5 (below_size (by repeat (first | (with_reducible first | exact HB.out | apply bwA | apply bwN | apply bwD) | exact HB.out)))); have n1_ := Aside0.mk (below_step (by repeat (first | (with_reducible first | exact HB.out | apply bwA | apply bwN | apply bwD) | exact HB.out)) hb); clear HB; have HO211 := n0_; have HB := n1_; clear n0_ n1_; clear hb ho5))
   go_loopg [4] k (fun kq v4 w' => ∃ (x3_1 : List (S109)) (x4_1 : Int), v4 = .int .i64 x4_1 ∧ Aside0 (laws_toRuleS.l0 kq l0 x3_1 x4_1 = some r) ∧ Aside0 (kq ≤ k) ∧ Aside0 (Kd.R k109 109 w' w.heap.size (fun _ => True) v210 x3_1) ∧ Aside0 (Below w.heap.size w w'))
   case atStart => exact ⟨(y209), (0), rsd, H', ⟨Nat.le_refl _⟩, ⟨rvR HO211.out⟩, ⟨by repeat (first | (with_reducible first | exact HB.out | apply bwA | apply bwN | apply bwD) | exact HB.out)⟩⟩
   case round =>
    clear H'
    try clear c2
    try clear c2b0
    try clear c2b1
    try clear p2
    try clear c3
    try clear c3b0
    try clear c3b1
    obtain ⟨x3_1, x4_1, rfl, HA, HK1, HO_3, HB⟩ := hrel
    cases gk with
    | zero => exact absurd HA.out (by simp [laws_toRuleS.l0])
    | succ k1 =>
     have H := HA.out
     clear HA
     simp only [laws_toRuleS.l0] at H
     by_cases c6 : x4_1 < (l0.length : Int)
     ·rw [if_pos c6] at H
      have c6b0 : decide (x4_1 < (l0.length : Int)) = true := decide_eq_true c6
      clear c6
      by_cases c7 : 0 ≤ x4_1
      ·rw [if_pos c7] at H
       have c7b0 : decide (0 ≤ x4_1) = true := decide_eq_true c7
       clear c7
       replace H := Option.bind_eq_some_iff.mp H
       obtain ⟨⟨t213, t216, t219⟩, A80, H⟩ := H
       replace H : (if x4_1 < (x3_1.length : Int) then (laws_toRuleS.l0 k1 l0 (x3_1.set (x4_1 : Int).toNat (⟨t213, t216, t219⟩ : S109)) (wrap64 (x4_1 + 1))) else (none)) = some r := H
       have A8 := Aside0.mk A80
       clear A80
       by_cases c9 : x4_1 < (x3_1.length : Int)
       ·rw [if_pos c9] at H
        have c9b0 : decide (x4_1 < (x3_1.length : Int)) = true := decide_eq_true c9
        clear c9
        obtain ⟨y222, hy222⟩ : ∃ y_ : List (S109), y_ = (x3_1.set (x4_1 : Int).toNat (⟨t213, t216, t219⟩ : S109)) := ⟨_, rfl⟩
        replace H : (laws_toRuleS.l0 k1 l0 y222 (wrap64 (x4_1 + 1))) = some r := by first | (rw [hy222]; with_reducible exact H) | (have H2_ := (Option.bind_some _ _).symm.trans H; rw [hy222]; with_reducible exact H2_) | (have H2_ := (Option.bind_some _ _).symm.trans H; with_reducible exact H2_) | with_reducible exact H | (rw [hy222]; exact H) | exact H
        have Ny222 := Aside0.mk hy222
        clear hy222
        have H' := Aside0.mk H
        clear H
        have p212 : 0 ≤ (x4_1 : Int) := oda
        have q212 : x4_1 < (l0.length : Int) := oda
        obtain ⟨ad212, A212_0, c212_0, A212_1, c212_1, A212_2, c212_2, e212, hx212_0, hx212_1, hx212_2, hl212_0, hi212_0, hl212_1, hi212_1, hl212_2, hi212_2⟩ := at_T131 HR0.out x4_1 p212 q212
        cases e212
        try replace hx212_0 := bct HB.out hx212_0
        try replace hx212_1 := bct HB.out hx212_1
        try replace hx212_2 := bct HB.out hx212_2
        have HR212_0 := Aside0.mk hi212_0
        have HC212_0 := Aside0.mk hl212_0
        clear hi212_0 hl212_0
        have HR212_1 := Aside0.mk hi212_1
        have HC212_1 := Aside0.mk hl212_1
        clear hi212_1 hl212_1
        have HR212_2 := Aside0.mk hi212_2
        have HC212_2 := Aside0.mk hl212_2
        clear hi212_2 hl212_2
        replace p212 := eq_true p212
        replace q212 := eq_true q212
        go_wp2_with (first | ((with_reducible refine gate_callee (f := 120) rfl ?_); refine goesL_ (some 20) rfl rfl Try.func120 (by kernel_rfl) rfl #[.agg #[.slice A212_0 ((rd_T131 l0 x4_1).f0).length c212_0, .slice A212_1 ((rd_T131 l0 x4_1).f1).length c212_1, .slice A212_2 ((rd_T131 l0 x4_1).f2).length c212_2]] rfl lmB ?_; (with_reducible refine (laws_toRule.calls k1 _ _ ((rd_T131 l0 x4_1).f0) _ _ ((rd_T131 l0 x4_1).f1) _ _ ((rd_T131 l0 x4_1).f2) t213 t216 t219 _ ?side1 ?side2 ?side3 ?side4 ?side5 ?side6 A8.out).mono ?_); (case side1 => repeat (first | exact (Kd.C_below HR212_0.out HB.out) | (with_reducible refine Kd.C_alloc ?_ _) | (with_reducible refine Kd.C_drewN ?_ _) | (with_reducible refine Kd.C_drew ?_))); (case side2 => exact HC212_0.out); (case side3 => repeat (first | exact (Kd.C_below HR212_1.out HB.out) | (with_reducible refine Kd.C_alloc ?_ _) | (with_reducible refine Kd.C_drewN ?_ _) | (with_reducible refine Kd.C_drew ?_))); (case side4 => exact HC212_1.out); (case side5 => repeat (first | exact (Kd.C_below HR212_2.out HB.out) | (with_reducible refine Kd.C_alloc ?_ _) | (with_reducible refine Kd.C_drewN ?_ _) | (with_reducible refine Kd.C_drew ?_))); (case side6 => exact HC212_2.out); rintro e w11 ⟨v214, v217, v220, rfl, ho0, ho1, ho2, hb⟩; refine ⟨_, rfl, ?_⟩; have n0_ := Aside0.mk (Kd.R_mono (Kd.R_told (Kd.R_told (Kd.R_told (Kd.R_old (rvR HO_3.out) hb) (Kd.R_base ho0)) (Kd.R_base ho1)) (Kd.S_base ho2)) (fun _ h_ => h_.1)); have n1_ := Aside0.mk (Kd.R_lower ho0 (below_size (by repeat (first | (with_reducible first | exact HB.out | apply bwA | apply bwN | apply bwD) | exact HB.out)))); have n2_ := Aside0.mk (Kd.R_lower ho1 (below_size (by repeat (first | (with_reducible first | exact HB.out | apply bwA | apply bwN | apply bwD) | exact HB.out)))); have n3_ := Aside0.mk (Kd.S_lower ho2 (below_size (by repeat (first | (with_reducible first | exact HB.out | apply bwA | apply bwN | apply bwD) | exact HB.out)))); have n4_ := Aside0.mk (below_step (by repeat (first | (with_reducible first | exact HB.out | apply bwA | apply bwN | apply bwD) | exact HB.out)) hb); clear HO_3; clear HB; have HO_3 := n0_; have HO215 := n1_; have HO218 := n2_; have HO221 := n3_; have HB := n4_; clear n0_ n1_ n2_ n3_ n4_; (try clear hb); (try clear hb2); (try clear hk); (try clear hi); (try clear ho0); (try clear ho1); (try clear ho2); have p10 : 0 ≤ (x4_1 : Int) := oda; have q10 : (x4_1 : Int) < ((x3_1.length : Int) : Int) := oda; obtain ⟨go10, co10, eo10, gb10, gl10, cl10, HG10⟩ := Kd.R_form HO_3.out (by omega); (first | cases eo10 | (injection eo10 with ea_ en_ ec_; (first | subst ea_ | (injection ea_ with ea_; subst ea_)); subst ec_; clear en_)); have GB10 := Aside0.mk gb10; have GG10 := Aside0.mk HG10; clear gb10 gl10 HG10; obtain ⟨ce10, hcl10, hM10, hcc10, hfr10⟩ := Kd.R_elem HO_3.out z109 (x4_1 : Int) p10 q10; obtain ⟨ve10_0, ve10_1, ve10_2, rfl, ge10_0, ge10_1, ge10_2⟩ := k109_openM hM10; have hx10_0 : w11.cell? ⟨go10, (x4_1 : Int).toNat * 3, none⟩ = some (ve10_0) := hcc10 0 _ rfl; have hx10_1 : w11.cell? ⟨go10, (x4_1 : Int).toNat * 3 + 1, none⟩ = some (ve10_1) := hcc10 1 _ rfl; have hx10_2 : w11.cell? ⟨go10, (x4_1 : Int).toNat * 3 + 2, none⟩ = some (ve10_2) := hcc10 2 _ rfl; have hf10_0 : w11.frozen? ⟨go10, (x4_1 : Int).toNat * 3, none⟩ = false := hfr10 0; have hf10_1 : w11.frozen? ⟨go10, (x4_1 : Int).toNat * 3 + 1, none⟩ = false := hfr10 1; have hf10_2 : w11.frozen? ⟨go10, (x4_1 : Int).toNat * 3 + 2, none⟩ = false := hfr10 2; clear hcl10 hcc10 hfr10; (try clear hM10); replace p10 := eq_true p10; replace q10 := eq_true q10; have n_ := Aside0.mk (Kd.R_mono (ok' := (fun k_ => some k_ ≠ (v214 : Value).ownBlock ∧ some k_ ≠ (v217 : Value).ownBlock ∧ some k_ ≠ (v220 : Value).ownBlock)) HO_3.out (fun k_ hk => ⟨hk.1.1.2, ⟨hk.1.2, hk.2⟩⟩)); clear HO_3; have HO_3 := n_; clear n_; have HX12 := Aside0.mk (show Kd.R k109 109 w11 w.heap.size (fun _ => True) (.slice (some ⟨go10, 0, none⟩) x3_1.length co10) x3_1 from (by (with_reducible repeat (first | apply Kd.R_alloc | apply Kd.R_drewN | apply Kd.R_drew)); exact Kd.R_mono HO_3.out (fun _ hk => trivial))); obtain ⟨ce12, hcl12, hM12, hcc12, hfr12⟩ := Kd.R_elem HX12.out z109 (x4_1 : Int) (oda) (by have h_ : (x4_1 : Int) < ((x3_1.length : Int) : Int) := oda; first | exact h_ | (have e_ := (Kd.R_reads' HO_3.out).1; omega) | simpa using h_); obtain ⟨ve12_0, ve12_1, ve12_2, rfl, ge12_0, ge12_1, ge12_2⟩ := k109_openM hM12; have HP12 := Kd.R_seg HX12.out (x4_1 : Int) (oda) (by have h_ : (x4_1 : Int) < ((x3_1.length : Int) : Int) := oda; first | exact h_ | (have e_ := (Kd.R_reads' HO_3.out).1; omega) | simpa using h_) (seg := [v214, v217, v220]) (j := 0) hcl12 hcc12 (show 3 ≤ 3 from by decide) (x' := (⟨t213, t216, t219⟩ : S109)) (k109_mkM _ _ _ (⟨t213, t216, t219⟩ : S109) (Kd.R_mono (Kd.R_apart' (HO215.out) (Kd.R_typed HO_3.out) (by decide)) (fun k_ hk => ⟨trivial, fun e_ => (hk.2) (by rw [e_]; rfl)⟩)) (Kd.R_mono (Kd.R_apart' (HO218.out) (Kd.R_typed HO_3.out) (by decide)) (fun k_ hk => ⟨trivial, fun e_ => (hk.2) (by rw [e_]; rfl)⟩)) (Kd.R_mono (Kd.R_apart' ((Kd.S_R HO221.out)) (Kd.R_typed HO_3.out) (by decide)) (fun k_ hk => ⟨trivial, fun e_ => (hk.2) (by rw [e_]; rfl)⟩))) (fun _ hk => hk); have hx12_0 := hcc12 0 _ rfl; (try simp only [show (k109).sz = 3 from rfl, Nat.mul_one, Nat.add_zero] at hx12_0); have hf12_0 := hfr12 0; (try simp only [show (k109).sz = 3 from rfl, Nat.mul_one, Nat.add_zero] at hf12_0); have hx12_1 := hcc12 1 _ rfl; (try simp only [show (k109).sz = 3 from rfl, Nat.mul_one, Nat.add_zero] at hx12_1); have hf12_1 := hfr12 1; (try simp only [show (k109).sz = 3 from rfl, Nat.mul_one, Nat.add_zero] at hf12_1); have hx12_2 := hcc12 2 _ rfl; (try simp only [show (k109).sz = 3 from rfl, Nat.mul_one, Nat.add_zero] at hx12_2); have hf12_2 := hfr12 2; (try simp only [show (k109).sz = 3 from rfl, Nat.mul_one, Nat.add_zero] at hf12_2); clear hcl12 hcc12 hfr12; (try clear hM12)) | ((with_reducible refine gate_store (t := 109) (p := 21) rfl ?_); refine store_event (t := 109) (p := 21) (v := ?vo_w13) (w1 := (((w11.setCell ⟨go10, (x4_1 : Int).toNat * 3, none⟩ (v214)).setCell ⟨go10, (x4_1 : Int).toNat * 3 + 1, none⟩ (v217)).setCell ⟨go10, (x4_1 : Int).toNat * 3 + 2, none⟩ (v220))) ?hg ?ho ?hn ?hr ?_; (case ho => rfl); (case hg => rfl); (case hn => rfl); (case hr => first | (go_simp; done) | (go_simp; rfl) | (obtain ⟨_, _, e_⟩ := Kd.R_slice (HO215.out); (try subst e_); obtain ⟨_, _, e_⟩ := Kd.R_slice (HO218.out); (try subst e_); obtain ⟨_, _, e_⟩ := Kd.R_slice ((Kd.S_R HO221.out)); (try subst e_); first | (go_simp; done) | (go_simp; rfl))); intro w13 hw; have hg : w11.grownBy w13 (some go10) := (by rw [hw]; exact HP12.2); have hp_ : Kd.R k109 109 w13 w.heap.size (fun _ => True) (.slice (some ⟨go10, 0, none⟩) x3_1.length co10) y222 := (by rw [hw, Ny222.out]; exact HP12.1); clear HP12; have n0_ := Aside0.mk (hp_); have n1_ := Aside0.mk ((by rw [hw]; exact below_set (below_set (below_set (HB.out) GB10.out) GB10.out) GB10.out : Below w.heap.size w w13)); clear HO_3; clear HB; clear HO215; clear HO218; clear HO221; have HO_3 := n0_; have HB := n1_; clear n0_ n1_; clear hg hw hp_))
        go_roundg k1
        case measure => have := HK1.out; omega
        case rel => exact ⟨(y222), (wrap64 (x4_1 + 1)), rsd, H', ⟨by have := HK1.out; omega⟩, ⟨rvR HO_3.out⟩, ⟨by repeat (first | (with_reducible first | exact HB.out | apply bwA | apply bwN | apply bwD) | exact HB.out)⟩⟩
       ·rw [if_neg c9] at H
        exact absurd H (by simp)
      ·rw [if_neg c7] at H
       exact absurd H (by simp)
     ·rw [if_neg c6] at H
      have c6b0 : decide (x4_1 < (l0.length : Int)) = false := decide_eq_false c6
      clear c6
      obtain rfl := Option.some.inj H
      (try rw [hl212_0] at c6b0)
      (try rw [hl212_1] at c6b0)
      (try rw [hl212_2] at c6b0)
      go_wp2
      go_ret
      exact ⟨_, ers, by (with_reducible repeat (first | apply Kd.R_alloc | apply Kd.R_drewN | apply Kd.R_drew)); exact HO_3.out, by repeat (first | (with_reducible first | exact HB.out | apply bwA | apply bwN | apply bwD) | exact HB.out)⟩
  ·rw [if_neg c3] at H
   exact absurd H (by simp)
 ·rw [if_neg c2] at H
  exact absurd H (by simp)

/-! ### laws_toSystem: function 35 -/
def laws_toSystem.f (k : Nat) (l0_0 : List (S133)) (l0_1 : List (S131)) : Option ((List (S99)) × (List (S109))) := (laws_toVarS.f k l0_0).bind fun t226 => ((laws_toRuleS.f k l0_1).bind fun t229 => (some (t226, t229)))
theorem laws_toSystem.mono : ∀ a0 a1 k, LeO (laws_toSystem.f k a0 a1) (laws_toSystem.f (k + 1) a0 a1) := by
 intro a0 a1 k
 unfold laws_toSystem.f
 repeat' first
   | (with_reducible exact laws_toRuleS.mono _ _)
   | (with_reducible exact laws_toVarS.mono _ _)
   | (with_reducible exact LeO.refl _)
   | (with_reducible exact LeO.none _)
   | (with_reducible refine LeO.ite ?_ ?_)
   | (with_reducible refine LeO.bind ?_ (fun _ => ?_))
   | exact laws_toRuleS.mono _ _
   | exact laws_toVarS.mono _ _
   | exact LeO.none _
   | refine LeO.ite ?_ ?_
   | refine LeO.bind ?_ (fun _ => ?_)
set_option maxHeartbeats 8000000 in
set_option maxRecDepth 100000 in
theorem laws_toSystem.calls (k : Nat) (A0_0 : Option Addr) (c0_0 : Nat) (l0_0 : List (S133)) (A0_1 : Option Addr) (c0_1 : Nat) (l0_1 : List (S131)) (r1 : List (S99)) (r2 : List (S109)) (w : World) (hr0_0 : Kd.C k133 w A0_0 l0_0.length l0_0) (hc0_0 : l0_0.length ≤ c0_0) (hr0_1 : Kd.C k131 w A0_1 l0_1.length l0_1) (hc0_1 : l0_1.length ≤ c0_1) (h : laws_toSystem.f k l0_0 l0_1 = some (r1, r2)) :
  Calls Try.prog 35 #[.agg #[.slice A0_0 l0_0.length c0_0, .slice A0_1 l0_1.length c0_1]] w fun e w' => ∃ v0_ v1_ : Value, e = .returned (.agg #[v0_, v1_]) ∧ Kd.R k99 99 w' w.heap.size (fun _ => True) v0_ r1 ∧ Kd.R k109 109 w' w.heap.size (fun _ => True) v1_ r2 ∧ Below w.heap.size w w' := by
 have hu52 := Try.underlying52
 have hu58 := Try.underlying58
 have HR0_0 := Aside0.mk hr0_0
 have HC0_0 := Aside0.mk hc0_0
 clear hr0_0 hc0_0
 have HR0_1 := Aside0.mk hr0_1
 have HC0_1 := Aside0.mk hc0_1
 clear hr0_1 hc0_1
 have HB := Aside0.mk (Below.refl w.heap.size w)
 have H : ((laws_toVarS.f k l0_0).bind fun t226 => ((laws_toRuleS.f k l0_1).bind fun t229 => (some (t226, t229)))) = some (r1, r2) := h
 clear h
 replace H := Option.bind_eq_some_iff.mp H
 obtain ⟨t226, A20, H⟩ := H
 replace H : ((laws_toRuleS.f k l0_1).bind fun t229 => (some (t226, t229))) = some (r1, r2) := H
 have A2 := Aside0.mk A20
 clear A20
 replace H := Option.bind_eq_some_iff.mp H
 obtain ⟨t229, A30, H⟩ := H
 replace H : (some (t226, t229)) = some (r1, r2) := H
 have A3 := Aside0.mk A30
 clear A30
 simp only [Option.some.injEq, Prod.mk.injEq] at H
 obtain ⟨rfl, rfl⟩ := H
 go_enter Try.func35, Try.ntmps35
 go_wp2_with (first | ((with_reducible refine gate_dst (N := 1) rfl ?_); refine box_event ?hg (N := 1) ?hd (cs := #[.slice A0_0 l0_0.length c0_0, .slice A0_1 l0_1.length c0_1]) (t := 52) ?hr ?_; (case hd => rfl); (case hg => rfl); (case hr => first | (go_simp; done) | (go_simp; rfl)); intro gb223 hg w4 hbox hb; have n0_ := Aside0.mk (below_step (by repeat (first | (with_reducible first | exact HB.out | apply bwA | apply bwN | apply bwD) | exact HB.out)) hb); have n1_ := Aside0.mk (hbox); have n2_ := Aside0.mk ((by rw [hg]; exact (below_size (by repeat (first | (with_reducible first | exact HB.out | apply bwA | apply bwN | apply bwD) | exact HB.out))) : w.heap.size ≤ gb223)); have n3_ := Aside0.mk ((by rw [hg]; exact (below_size (by repeat (first | (with_reducible first | exact HB.out | apply bwA | apply bwN | apply bwD) | exact HB.out))) : w.heap.size ≤ gb223)); clear HB; have HB := n0_; have BK223 := n1_; have GW223 := n2_; have GE223 := n3_; clear n0_ n1_ n2_ n3_; clear hb hbox hg) | ((with_reducible refine gate_dst (N := 2) rfl ?_); refine box_event ?hg (N := 2) ?hd (cs := #[.slice none 0 0, .slice none 0 0]) (t := 58) ?hr ?_; (case hd => rfl); (case hg => rfl); (case hr => first | (go_simp; done) | (go_simp; rfl)); intro gb224 hg w5 hbox hb; have n0_ := Aside0.mk (blk_below (g := gb223) (o := .cells #[.slice A0_0 l0_0.length c0_0, .slice A0_1 l0_1.length c0_1] 52 (0, 0)) (bvK BK223.out) hb); have n1_ := Aside0.mk (below_step (by repeat (first | (with_reducible first | exact HB.out | apply bwA | apply bwN | apply bwD | refine below_set ?_ GE223.out) | exact HB.out)) hb); have n2_ := Aside0.mk (hbox); have n3_ := Aside0.mk ((by rw [hg]; exact (below_size (by repeat (first | (with_reducible first | exact HB.out | apply bwA | apply bwN | apply bwD | refine below_set ?_ GE223.out) | exact HB.out))) : w.heap.size ≤ gb224)); have n4_ := Aside0.mk ((by rw [hg]; exact (below_size (by repeat (first | (with_reducible first | exact HB.out | apply bwA | apply bwN | apply bwD | refine below_set ?_ GE223.out) | exact HB.out))) : w.heap.size ≤ gb224)); have n5_ := Aside0.mk ((by rw [hg]; exact Nat.ne_of_lt (blk_lt (g := gb223) (o := .cells #[.slice A0_0 l0_0.length c0_0, .slice A0_1 l0_1.length c0_1] 52 (0, 0)) (bvK BK223.out)) : gb223 ≠ gb224)); have n6_ := Aside0.mk ((by rw [hg]; exact Nat.ne_of_gt (blk_lt (g := gb223) (o := .cells #[.slice A0_0 l0_0.length c0_0, .slice A0_1 l0_1.length c0_1] 52 (0, 0)) (bvK BK223.out)) : gb224 ≠ gb223)); clear BK223; clear HB; have BK223 := n0_; have HB := n1_; have BK224 := n2_; have GW224 := n3_; have GE224 := n4_; have NB223_224 := n5_; have NB224_223 := n6_; clear n0_ n1_ n2_ n3_ n4_ n5_ n6_; clear hb hbox hg) | ((with_reducible refine gate_dst (N := 3) rfl ?_); refine box_event ?hg (N := 3) ?hd (cs := #[.slice none 0 0, .slice none 0 0]) (t := 58) ?hr ?_; (case hd => rfl); (case hg => rfl); (case hr => first | (go_simp; done) | (go_simp; rfl)); intro gb225 hg w6 hbox hb; have n0_ := Aside0.mk (blk_below (g := gb223) (o := .cells #[.slice A0_0 l0_0.length c0_0, .slice A0_1 l0_1.length c0_1] 52 (0, 0)) (bvK BK223.out) hb); have n1_ := Aside0.mk (blk_below (g := gb224) (o := .cells #[.slice none 0 0, .slice none 0 0] 58 (0, 0)) (bvK BK224.out) hb); have n2_ := Aside0.mk (below_step (by repeat (first | (with_reducible first | exact HB.out | apply bwA | apply bwN | apply bwD | refine below_set ?_ GE223.out | refine below_set ?_ GE224.out) | exact HB.out)) hb); have n3_ := Aside0.mk (hbox); have n4_ := Aside0.mk ((by rw [hg]; exact (below_size (by repeat (first | (with_reducible first | exact HB.out | apply bwA | apply bwN | apply bwD | refine below_set ?_ GE223.out | refine below_set ?_ GE224.out) | exact HB.out))) : w.heap.size ≤ gb225)); have n5_ := Aside0.mk ((by rw [hg]; exact (below_size (by repeat (first | (with_reducible first | exact HB.out | apply bwA | apply bwN | apply bwD | refine below_set ?_ GE223.out | refine below_set ?_ GE224.out) | exact HB.out))) : w.heap.size ≤ gb225)); have n6_ := Aside0.mk ((by rw [hg]; exact Nat.ne_of_lt (blk_lt (g := gb223) (o := .cells #[.slice A0_0 l0_0.length c0_0, .slice A0_1 l0_1.length c0_1] 52 (0, 0)) (bvK BK223.out)) : gb223 ≠ gb225)); have n7_ := Aside0.mk ((by rw [hg]; exact Nat.ne_of_gt (blk_lt (g := gb223) (o := .cells #[.slice A0_0 l0_0.length c0_0, .slice A0_1 l0_1.length c0_1] 52 (0, 0)) (bvK BK223.out)) : gb225 ≠ gb223)); have n8_ := Aside0.mk ((by rw [hg]; exact Nat.ne_of_lt (blk_lt (g := gb224) (o := .cells #[.slice none 0 0, .slice none 0 0] 58 (0, 0)) (bvK BK224.out)) : gb224 ≠ gb225)); have n9_ := Aside0.mk ((by rw [hg]; exact Nat.ne_of_gt (blk_lt (g := gb224) (o := .cells #[.slice none 0 0, .slice none 0 0] 58 (0, 0)) (bvK BK224.out)) : gb225 ≠ gb224)); clear BK223; clear BK224; clear HB; have BK223 := n0_; have BK224 := n1_; have HB := n2_; have BK225 := n3_; have GW225 := n4_; have GE225 := n5_; have NB223_225 := n6_; have NB225_223 := n7_; have NB224_225 := n8_; have NB225_224 := n9_; clear n0_ n1_ n2_ n3_ n4_ n5_ n6_ n7_ n8_ n9_; clear hb hbox hg; have hnb7 := NB223_224.out; have hnc7 := NB224_223.out; have hnb8 := NB223_225.out; have hnc8 := NB225_223.out; have hcz9_0 : w6.cell? ⟨gb223, 0, none⟩ = some (.slice A0_0 l0_0.length c0_0) := (blk_cell BK223.out 0).trans rfl; have hcz9_1 : w6.cell? ⟨gb223, 1, none⟩ = some (.slice A0_1 l0_1.length c0_1) := (blk_cell BK223.out 1).trans rfl; have hfz9_0 := blk_frozen BK223.out 0; have hfz9_1 := blk_frozen BK223.out 1) | ((with_reducible refine gate_callee (f := 78) rfl ?_); refine goesL_ (some 6) rfl rfl Try.func78 (by kernel_rfl) rfl #[.slice A0_0 l0_0.length c0_0] rfl lmB ?_; (with_reducible refine (laws_toVarS.calls k _ _ l0_0 t226 _ ?side1 ?side2 A2.out).mono ?_); (case side1 => repeat (first | exact (Kd.C_below HR0_0.out HB.out) | (with_reducible refine Kd.C_alloc ?_ _) | (with_reducible refine Kd.C_drewN ?_ _) | (with_reducible refine Kd.C_drew ?_))); (case side2 => exact HC0_0.out); rintro e w10 ⟨v227, rfl, ho0, hb⟩; refine ⟨_, rfl, ?_⟩; have n0_ := Aside0.mk (Kd.R_lower ho0 (below_size (by repeat (first | (with_reducible first | exact HB.out | apply bwA | apply bwN | apply bwD | refine below_set ?_ GE223.out | refine below_set ?_ GE224.out | refine below_set ?_ GE225.out) | exact HB.out)))); have n1_ := Aside0.mk (blk_below (g := gb223) (o := .cells #[.slice A0_0 l0_0.length c0_0, .slice A0_1 l0_1.length c0_1] 52 (0, 0)) (bvK BK223.out) hb); have n2_ := Aside0.mk (blk_below (g := gb224) (o := .cells #[.slice none 0 0, .slice none 0 0] 58 (0, 0)) (bvK BK224.out) hb); have n3_ := Aside0.mk (blk_below (g := gb225) (o := .cells #[.slice none 0 0, .slice none 0 0] 58 (0, 0)) (bvK BK225.out) hb); have n4_ := Aside0.mk (below_step (by repeat (first | (with_reducible first | exact HB.out | apply bwA | apply bwN | apply bwD | refine below_set ?_ GE223.out | refine below_set ?_ GE224.out | refine below_set ?_ GE225.out) | exact HB.out)) hb); clear BK223; clear BK224; clear BK225; clear HB; have HO228 := n0_; have BK223 := n1_; have BK224 := n2_; have BK225 := n3_; have HB := n4_; clear n0_ n1_ n2_ n3_ n4_; (try clear hb); (try clear hb2); (try clear hk); (try clear hi); (try clear ho0); obtain ⟨Ao11, co11, eo11⟩ := Kd.R_slice HO228.out; subst eo11; have hnb12 := NB225_224.out; have hnc12 := NB224_225.out; have hcz13_0 : w10.cell? ⟨gb225, 0, none⟩ = some (.slice none 0 0) := (blk_cell BK225.out 0).trans rfl; have hcz13_1 : w10.cell? ⟨gb225, 1, none⟩ = some (.slice none 0 0) := (blk_cell BK225.out 1).trans rfl; have hfz13_0 := blk_frozen BK225.out 0; have hfz13_1 := blk_frozen BK225.out 1; have hcz14_0 : w10.cell? ⟨gb223, 0, none⟩ = some (.slice A0_0 l0_0.length c0_0) := (blk_cell BK223.out 0).trans rfl; have hcz14_1 : w10.cell? ⟨gb223, 1, none⟩ = some (.slice A0_1 l0_1.length c0_1) := (blk_cell BK223.out 1).trans rfl; have hfz14_0 := blk_frozen BK223.out 0; have hfz14_1 := blk_frozen BK223.out 1) | ((with_reducible refine gate_callee (f := 79) rfl ?_); refine goesL_ (some 10) rfl rfl Try.func79 (by kernel_rfl) rfl #[.slice A0_1 l0_1.length c0_1] rfl lmB ?_; (with_reducible refine (laws_toRuleS.calls k _ _ l0_1 t229 _ ?side1 ?side2 A3.out).mono ?_); (case side1 => exact Kd.C_below HR0_1.out (by repeat (first | (with_reducible first | exact HB.out | apply bwA | apply bwN | apply bwD | refine below_set ?_ GE223.out | refine below_set ?_ GE224.out | refine below_set ?_ GE225.out) | exact HB.out))); (case side2 => exact HC0_1.out); rintro e w15 ⟨v230, rfl, ho0, hb⟩; refine ⟨_, rfl, ?_⟩; have n0_ := Aside0.mk (Kd.R_below (by (with_reducible repeat (first | apply Kd.R_alloc | apply Kd.R_drewN | apply Kd.R_drew)); exact (Kd.R_mono (Kd.R_far (p := ⟨gb225, 0, none⟩) (Kd.R_types HO228.out BK225.out (by decide)) (fun _ hk => hk.2) (.slice Ao11 t226.length co11)) (fun _ h_ => h_.1))) hb); have n1_ := Aside0.mk (Kd.R_lower ho0 (below_size (by repeat (first | (with_reducible first | exact HB.out | apply bwA | apply bwN | apply bwD | refine below_set ?_ GE223.out | refine below_set ?_ GE224.out | refine below_set ?_ GE225.out) | exact HB.out)))); have n2_ := Aside0.mk (blk_below (g := gb223) (o := .cells #[.slice A0_0 l0_0.length c0_0, .slice A0_1 l0_1.length c0_1] 52 (0, 0)) (by (with_reducible repeat (first | refine blk_drewN ?_ _ | refine blk_drew ?_ | refine blk_alloc ?_ _)); refine blk_far ?_ NB223_225.out _; (with_reducible repeat (first | refine blk_drewN ?_ _ | refine blk_drew ?_ | refine blk_alloc ?_ _)); exact BK223.out) hb); have n3_ := Aside0.mk (blk_below (g := gb224) (o := .cells #[.slice none 0 0, .slice none 0 0] 58 (0, 0)) (by (with_reducible repeat (first | refine blk_drewN ?_ _ | refine blk_drew ?_ | refine blk_alloc ?_ _)); refine blk_far ?_ NB224_225.out _; (with_reducible repeat (first | refine blk_drewN ?_ _ | refine blk_drew ?_ | refine blk_alloc ?_ _)); exact BK224.out) hb); have n4_ := Aside0.mk (blk_below (g := gb225) (o := .cells #[.slice Ao11 t226.length co11, .slice none 0 0] 58 (0, 0)) (by (with_reducible repeat (first | refine blk_drewN ?_ _ | refine blk_drew ?_ | refine blk_alloc ?_ _)); refine blk_put (cs := #[.slice none 0 0, .slice none 0 0]) ?_ 0 _ rfl; (with_reducible repeat (first | refine blk_drewN ?_ _ | refine blk_drew ?_ | refine blk_alloc ?_ _)); exact BK225.out) hb); have n5_ := Aside0.mk (below_step (by repeat (first | (with_reducible first | exact HB.out | apply bwA | apply bwN | apply bwD | refine below_set ?_ GE223.out | refine below_set ?_ GE224.out | refine below_set ?_ GE225.out) | exact HB.out)) hb); clear HO228; clear BK223; clear BK224; clear BK225; clear HB; have HO228 := n0_; have HO231 := n1_; have BK223 := n2_; have BK224 := n3_; have BK225 := n4_; have HB := n5_; clear n0_ n1_ n2_ n3_ n4_ n5_; (try clear hb); (try clear hb2); (try clear hk); (try clear hi); (try clear ho0); obtain ⟨Ao16, co16, eo16⟩ := Kd.R_slice HO231.out; subst eo16; have hcz17_0 : w15.cell? ⟨gb225, 0, none⟩ = some (.slice Ao11 t226.length co11) := (blk_cell BK225.out 0).trans rfl; have hcz17_1 : w15.cell? ⟨gb225, 1, none⟩ = some (.slice none 0 0) := (blk_cell BK225.out 1).trans rfl; have hfz17_0 := blk_frozen BK225.out 0; have hfz17_1 := blk_frozen BK225.out 1; have hcz18_0 : w15.cell? ⟨gb224, 0, none⟩ = some (.slice none 0 0) := (blk_cell BK224.out 0).trans rfl; have hcz18_1 : w15.cell? ⟨gb224, 1, none⟩ = some (.slice none 0 0) := (blk_cell BK224.out 1).trans rfl; have hfz18_0 := blk_frozen BK224.out 0; have hfz18_1 := blk_frozen BK224.out 1))
 refine bodyPost_ret (results_cell_row rfl _ _ gb224 58 #[.slice Ao11 t226.length co11, .slice Ao16 t229.length co16] (0, 0) _ rfl (by (with_reducible repeat (first | refine blk_drewN ?_ _ | refine blk_drew ?_ | refine blk_alloc ?_ _)); refine blk_put (cs := #[.slice Ao11 t226.length co11, .slice none 0 0]) ?_ 1 _ rfl; (with_reducible repeat (first | refine blk_drewN ?_ _ | refine blk_drew ?_ | refine blk_alloc ?_ _)); refine blk_put (cs := #[.slice none 0 0, .slice none 0 0]) ?_ 0 _ rfl; (with_reducible repeat (first | refine blk_drewN ?_ _ | refine blk_drew ?_ | refine blk_alloc ?_ _)); refine blk_far ?_ NB224_225.out _; (with_reducible repeat (first | refine blk_drewN ?_ _ | refine blk_drew ?_ | refine blk_alloc ?_ _)); exact BK224.out) Try.underlying58 rfl (by kernel_rfl)) rfl ?_
 exact ⟨_, _, ers, by (with_reducible repeat (first | apply Kd.R_alloc | apply Kd.R_drewN | apply Kd.R_drew)); exact Kd.R_mono (Kd.R_far (p := ⟨gb224, 1, none⟩) (Kd.R_far (p := ⟨gb224, 0, none⟩) (Kd.R_far (p := ⟨gb225, 1, none⟩) (Kd.R_types (Kd.R_types HO228.out BK225.out (by decide)) BK224.out (by decide)) (fun _ hk => hk.1.2) (.slice Ao16 t229.length co16)) (fun _ hk => hk.2) (.slice Ao11 t226.length co11)) (fun _ hk => hk.2) (.slice Ao16 t229.length co16)) (fun _ hk => trivial), by (with_reducible repeat (first | apply Kd.R_alloc | apply Kd.R_drewN | apply Kd.R_drew)); exact Kd.R_mono (Kd.R_far (p := ⟨gb224, 1, none⟩) (Kd.R_far (p := ⟨gb224, 0, none⟩) (Kd.R_far (p := ⟨gb225, 1, none⟩) (Kd.R_types (Kd.R_types HO231.out BK225.out (by decide)) BK224.out (by decide)) (fun _ hk => hk.1.2) (.slice Ao16 t229.length co16)) (fun _ hk => hk.2) (.slice Ao11 t226.length co11)) (fun _ hk => hk.2) (.slice Ao16 t229.length co16)) (fun _ hk => trivial), by repeat (first | (with_reducible first | exact HB.out | apply bwA | apply bwN | apply bwD | refine below_set ?_ GE223.out | refine below_set ?_ GE224.out | refine below_set ?_ GE225.out) | exact HB.out)⟩

/-! ### impl_in: function 62 -/
def impl_in.f (a0 : Int) (a1 : Int) (a2 : Int) : Option (Bool) := if a0 ≥ a1 then (some (decide (a0 ≤ a2))) else (some false)
set_option maxHeartbeats 8000000 in
set_option maxRecDepth 100000 in
theorem impl_in.calls (a0 : Int) (a1 : Int) (a2 : Int) (r : Bool) (w : World) (h : impl_in.f a0 a1 a2 = some r) :
  Calls Try.prog 62 #[.int .i64 a0, .int .i64 a1, .int .i64 a2] w fun e w' => e = .returned (.bool r) ∧ Drawn0 w w' := by
 have H : (if a0 ≥ a1 then (some (decide (a0 ≤ a2))) else (some false)) = some r := h
 clear h
 by_cases c4 : a0 ≥ a1
 ·rw [if_pos c4] at H
  have c4b0 : decide (a1 ≤ a0) = true := decide_eq_true c4
  clear c4
  obtain rfl := Option.some.inj H
  go_enter Try.func62, Try.ntmps62
  go_wp2
  go_ret
  exact ⟨by first | rfl | (simp; done) | (simp [*]; done), by repeat (first | exact Drawn0.refl _ | apply Drawn0.step)⟩
 ·rw [if_neg c4] at H
  have c4b0 : decide (a1 ≤ a0) = false := decide_eq_false c4
  clear c4
  obtain rfl := Option.some.inj H
  go_enter Try.func62, Try.ntmps62
  go_wp2
  go_ret
  exact ⟨by first | rfl | (simp; done) | (simp [*]; done), by repeat (first | exact Drawn0.refl _ | apply Drawn0.step)⟩

/-! ### impl_size: function 80 -/
def impl_size.l0 : Nat → Int → List (S99) → Int → Int → Option (Int)
 | 0, _, _, _, _ => none
 | k + 1, x3, x6, x7, x8 => if x8 < x7 then (if 0 ≤ x8 then (if x8 < (x6.length : Int) then (impl_size.l0 k (wrap64 (x3 * (wrap64 ((wrap64 (((rd_T99 x6 x8).f1) - ((rd_T99 x6 x8).f0))) + 1)))) x6 x7 (wrap64 (x8 + 1))) else (none)) else (none)) else (some x3)
def impl_size.f (k : Nat) (l0 : List (S99)) : Option (Int) := impl_size.l0 k 1 l0 (l0.length : Int) 0
theorem impl_size.mono_l : ∀ k, (∀ y0 y1 y2 y3, LeO (impl_size.l0 k y0 y1 y2 y3) (impl_size.l0 (k + 1) y0 y1 y2 y3))
 | 0 => fun _ _ _ _ r h => by simp [impl_size.l0] at h
 | k + 1 => by
  have ih0 := impl_size.mono_l k
  ·intro y0 y1 y2 y3
   unfold impl_size.l0
   repeat' first
   | (with_reducible exact ih0 _ _ _ _)
   | (with_reducible exact LeO.refl _)
   | (with_reducible exact LeO.none _)
   | (with_reducible refine LeO.ite ?_ ?_)
   | (with_reducible refine LeO.bind ?_ (fun _ => ?_))
   | exact ih0 _ _ _ _
   | exact LeO.none _
   | refine LeO.ite ?_ ?_
   | refine LeO.bind ?_ (fun _ => ?_)
theorem impl_size.mono : ∀ a0 k, LeO (impl_size.f k a0) (impl_size.f (k + 1) a0) := by
 intro a0 k
 have ih0 := impl_size.mono_l k
 unfold impl_size.f
 repeat' first
   | (with_reducible exact ih0 _ _ _ _)
   | (with_reducible exact LeO.refl _)
   | (with_reducible exact LeO.none _)
   | (with_reducible refine LeO.ite ?_ ?_)
   | (with_reducible refine LeO.bind ?_ (fun _ => ?_))
   | exact ih0 _ _ _ _
   | exact LeO.none _
   | refine LeO.ite ?_ ?_
   | refine LeO.bind ?_ (fun _ => ?_)
set_option maxHeartbeats 8000000 in
set_option maxRecDepth 100000 in
theorem impl_size.calls (k : Nat) (A0 : Option Addr) (c0 : Nat) (l0 : List (S99)) (r : Int) (w : World) (hr0 : Kd.C k99 w A0 l0.length l0) (hc0 : l0.length ≤ c0) (h : impl_size.f k l0 = some r) :
  Calls Try.prog 80 #[.slice A0 l0.length c0] w fun e w' => e = .returned (.int .i64 r) ∧ Below w.heap.size w w' := by
 have hu99 := Try.underlying99
 have HR0 := Aside0.mk hr0
 have HC0 := Aside0.mk hc0
 clear hr0 hc0
 have HB := Aside0.mk (Below.refl w.heap.size w)
 have H : (impl_size.l0 k 1 l0 (l0.length : Int) 0) = some r := h
 clear h
 have H' := Aside0.mk H
 clear H
 go_enter Try.func80, Try.ntmps80
 go_wp2
 go_loopg [3, 8] k (fun kq v3 v8 w' => ∃ (x3_1 : Int) (x8_1 : Int), v3 = .int .i64 x3_1 ∧ v8 = .int .i64 x8_1 ∧ Aside0 (impl_size.l0 kq x3_1 l0 (l0.length : Int) x8_1 = some r) ∧ Aside0 (kq ≤ k) ∧ Aside0 (Below w.heap.size w w'))
 case atStart => exact ⟨(1), (0), rsd, rsd, H', ⟨Nat.le_refl _⟩, ⟨by repeat (first | (with_reducible first | exact HB.out | apply bwA | apply bwN | apply bwD) | exact HB.out)⟩⟩
 case round =>
  clear H'
  obtain ⟨x3_1, x8_1, rfl, rfl, HA, HK1, HB⟩ := hrel
  cases gk with
  | zero => exact absurd HA.out (by simp [impl_size.l0])
  | succ k1 =>
   have H := HA.out
   clear HA
   simp only [impl_size.l0] at H
   by_cases c2 : x8_1 < (l0.length : Int)
   ·rw [if_pos c2] at H
    have c2b0 : decide (x8_1 < (l0.length : Int)) = true := decide_eq_true c2
    clear c2
    by_cases c3 : 0 ≤ x8_1
    ·rw [if_pos c3] at H
     have c3b0 : decide (0 ≤ x8_1) = true := decide_eq_true c3
     clear c3
     by_cases c4 : x8_1 < (l0.length : Int)
     ·rw [if_pos c4] at H
      have c4b0 : decide (x8_1 < (l0.length : Int)) = true := decide_eq_true c4
      clear c4
      have H' := Aside0.mk H
      clear H
      have p232 : 0 ≤ (x8_1 : Int) := oda
      have q232 : x8_1 < (l0.length : Int) := oda
      obtain ⟨ad232, e232, hx232_0, hx232_1, hx232_2⟩ := at_T99 HR0.out x8_1 p232 q232
      cases e232
      try replace hx232_0 := bct HB.out hx232_0
      try replace hx232_1 := bct HB.out hx232_1
      try replace hx232_2 := bct HB.out hx232_2
      replace p232 := eq_true p232
      replace q232 := eq_true q232
      go_wp2_with (first | ((with_reducible refine gate_dst (N := 5) rfl ?_); refine box_event ?hg (N := 5) ?hd (cs := #[.int .i64 0, .int .i64 0, .int .i64 0]) (t := 99) ?hr ?_; (case hd => rfl); (case hg => rfl); (case hr => first | (go_simp; done) | (go_simp; rfl)); intro gb233 hg w5 hbox hb; have n0_ := Aside0.mk (below_step (by repeat (first | (with_reducible first | exact HB.out | apply bwA | apply bwN | apply bwD) | exact HB.out)) hb); have n1_ := Aside0.mk (hbox); have n2_ := Aside0.mk ((by rw [hg]; exact (below_size (by repeat (first | (with_reducible first | exact HB.out | apply bwA | apply bwN | apply bwD) | exact HB.out))) : w.heap.size ≤ gb233)); have n3_ := Aside0.mk ((by rw [hg]; exact (below_size (by repeat (first | (with_reducible first | exact HB.out | apply bwA | apply bwN | apply bwD) | exact HB.out))) : w.heap.size ≤ gb233)); clear HB; have HB := n0_; have BK233 := n1_; have GW233 := n2_; have GE233 := n3_; clear n0_ n1_ n2_ n3_; clear hb hbox hg; have hcz6_0 : w5.cell? ⟨gb233, 0, none⟩ = some (.int .i64 0) := (blk_cell BK233.out 0).trans rfl; have hcz6_1 : w5.cell? ⟨gb233, 1, none⟩ = some (.int .i64 0) := (blk_cell BK233.out 1).trans rfl; have hcz6_2 : w5.cell? ⟨gb233, 2, none⟩ = some (.int .i64 0) := (blk_cell BK233.out 2).trans rfl; have hfz6_0 := blk_frozen BK233.out 0; have hfz6_1 := blk_frozen BK233.out 1; have hfz6_2 := blk_frozen BK233.out 2))
      go_roundg k1
      case measure => have := HK1.out; omega
      case rel => exact ⟨(wrap64 (x3_1 * (wrap64 ((wrap64 (((rd_T99 l0 x8_1).f1) - ((rd_T99 l0 x8_1).f0))) + 1)))), (wrap64 (x8_1 + 1)), rsd, rsd, H', ⟨by have := HK1.out; omega⟩, ⟨by repeat (first | (with_reducible first | exact HB.out | apply bwA | apply bwN | apply bwD | refine below_set ?_ GE233.out) | exact HB.out)⟩⟩
     ·rw [if_neg c4] at H
      exact absurd H (by simp)
    ·rw [if_neg c3] at H
     exact absurd H (by simp)
   ·rw [if_neg c2] at H
    have c2b0 : decide (x8_1 < (l0.length : Int)) = false := decide_eq_false c2
    clear c2
    obtain rfl := Option.some.inj H
    go_wp2
    go_ret
    exact ⟨ers, by repeat (first | (with_reducible first | exact HB.out | apply bwA | apply bwN | apply bwD) | exact HB.out)⟩

/-! ### impl_Var_125: function 125 -/
set_option maxHeartbeats 400000 in
theorem impl_Var_125.calls (g : Nat) (lb : Array Value) (eg : ∀ args w, (callFunc g args).run Try.prog w = .ok (.enter g args) w)
  (A0 : Option Addr) (c0 : Nat) (l0 : List (S99)) (p : Int → Option Bool) (r : Int) (w : World) (hr0 : Kd.C k99 w A0 l0.length l0)
  (hp : ∀ (i : Int), 0 ≤ i → i < l0.length → ∀ b, p i = some b → ∀ W, Below w.heap.size w W → Calls Try.prog g (#[.agg #[.int .i64 (rd_T99 l0 i).f0, .int .i64 (rd_T99 l0 i).f1, .int .i64 (rd_T99 l0 i).f2]] ++ lb) W fun e w' => e = .returned (.bool b) ∧ Below W.heap.size W w')
  (h : Copy.idxO p l0.length 0 = some r) :
  Calls Try.prog 125 #[.slice A0 l0.length c0, .func (.func g) #[] lb] w fun e w' => e = .returned (.int .i64 r) ∧ Below w.heap.size w w' := by
 have hn : l0.length ≤ 9223372036854775807 := hr0.2.1
 have hu_ := Try.underlying99
 have HR0 := Aside0.mk hr0
 have HP := Aside0.mk hp
 have H := Aside0.mk h
 clear hp hr0 h
 go_enter Try.func125, Try.ntmps125
 go_wp2
 go_loopg [5, 8] l0.length (fun gg _ s8 wr => ∃ kk : Int, 0 ≤ kk ∧ kk ≤ (l0.length : Int) ∧ Aside0 (l0.length ≤ gg + kk) ∧ s8 = .int .i64 kk ∧ Aside0 (Below w.heap.size w wr) ∧ Aside0 (Copy.idxO p (l0.length - kk.toNat) kk = some r))
 case atStart => exact ⟨0, by omega, by omega, ⟨by omega⟩, rfl, ⟨Below.refl _ _⟩, H⟩
 case round =>
  clear H
  obtain ⟨kk, h0, hkk, hg, rfl, HB, A⟩ := hrel
  by_cases hlt : kk < (l0.length : Int)
  ·have hltb : decide (kk < (l0.length : Int)) = true := decide_eq_true hlt
   obtain ⟨ad, e1, hx0, hx1, hx2⟩ := at_T99 (Kd.C_below HR0.out HB.out) kk h0 hlt
   cases e1
   have hd : l0.length - kk.toNat = (l0.length - (kk + 1).toNat) + 1 := by omega
   have A1 := A.out
   rw [hd, Copy.idxO] at A1
   clear A hd
   obtain ⟨b, hq, A1⟩ := Option.bind_eq_some_iff.mp A1
   have hcall := Aside0.mk (HP.out kk h0 hlt b hq _ HB.out)
   have H0 := Aside0.mk h0
   replace h0 := eq_true h0
   clear hq
   cases b with
   | true =>
    rw [if_pos rfl] at A1
    obtain rfl := Option.some.inj A1
    clear A1
    go_wp2_with (go_at_fn g; refine hcall.out.mono ?_; rintro e w' ⟨rfl, HB1⟩)
    go_ret
    exact ⟨rfl, below_then HB.out HB.out.size HB1⟩
   | false =>
    have A' := Aside0.mk A1
    clear A1
    have hw : wrap64 (kk + 1) = kk + 1 := by have := H0.out; unfold wrap64; omega
    have HW := Aside0.mk hw
    clear hw
    go_wp2_with (go_at_fn g; refine hcall.out.mono ?_; rintro e w' ⟨rfl, HB1⟩)
    go_roundg (l0.length - (kk + 1).toNat)
    case measure => have := hg.out; have := H0.out; omega
    case rel => exact ⟨kk + 1, by have := H0.out; omega, by omega, ⟨by have := H0.out; omega⟩, by first | rfl | rw [HW.out], ⟨below_then HB.out HB.out.size HB1⟩, ⟨by have := A'.out; simpa using this⟩⟩
  ·have hltb : decide (kk < (l0.length : Int)) = false := decide_eq_false hlt
   have this : kk.toNat = l0.length := by omega
   have A1 := A.out
   rw [this, Nat.sub_self, Copy.idxO] at A1
   obtain rfl := Option.some.inj A1
   clear A A1 this
   go_wp2
   go_ret
   exact ⟨rfl, HB.out⟩

/-! ### impl_Var_86: function 86 -/
set_option maxHeartbeats 400000 in
theorem impl_Var_86.calls (g : Nat) (lb : Array Value) (eg : ∀ args w, (callFunc g args).run Try.prog w = .ok (.enter g args) w)
  (A0 : Option Addr) (c0 : Nat) (l0 : List (S99)) (p : Int → Option Bool) (r : Int) (w : World) (hr0 : Kd.C k99 w A0 l0.length l0)
  (hp : ∀ (i : Int), 0 ≤ i → i < l0.length → ∀ b, p i = some b → ∀ W, Below w.heap.size w W → Calls Try.prog g (#[.agg #[.int .i64 (rd_T99 l0 i).f0, .int .i64 (rd_T99 l0 i).f1, .int .i64 (rd_T99 l0 i).f2]] ++ lb) W fun e w' => e = .returned (.bool b) ∧ Below W.heap.size W w')
  (h : Copy.idxO p l0.length 0 = some r) :
  Calls Try.prog 86 #[.slice A0 l0.length c0, .func (.func g) #[] lb] w fun e w' => e = .returned (.bool (decide (0 ≤ r))) ∧ Below w.heap.size w w' := by
 have HC := Aside0.mk (impl_Var_125.calls g lb eg A0 c0 l0 p r w hr0 hp h)
 clear hp hr0 h
 go_enter Try.func86, Try.ntmps86
 go_wp2_with (go_at_call 125; refine HC.out.mono ?_; rintro e w' ⟨rfl, HB1⟩)
 go_ret
 exact ⟨rfl, HB1⟩

/-! ### impl_varOk: function 88 -/
def impl_varOk.f (a0_0 : Int) (a0_1 : Int) (a0_2 : Int) : Option (Bool) := (impl_in.f a0_0 (-9999) 9999).bind fun t235 => (if t235 = true then ((impl_in.f a0_1 a0_0 9999).bind fun t236 => (if t236 = true then (if (wrap64 (a0_1 - a0_0)) < 20 then ((impl_in.f a0_2 a0_0 a0_1).bind fun t237 => (some t237)) else (some false)) else (some false))) else (some false))
set_option maxHeartbeats 8000000 in
set_option maxRecDepth 100000 in
theorem impl_varOk.calls (a0_0 : Int) (a0_1 : Int) (a0_2 : Int) (r : Bool) (w : World) (h : impl_varOk.f a0_0 a0_1 a0_2 = some r) :
  Calls Try.prog 88 #[.agg #[.int .i64 a0_0, .int .i64 a0_1, .int .i64 a0_2]] w fun e w' => e = .returned (.bool r) ∧ Below w.heap.size w w' := by
 have hu99 := Try.underlying99
 have HB := Aside0.mk (Below.refl w.heap.size w)
 have H : ((impl_in.f a0_0 (-9999) 9999).bind fun t235 => (if t235 = true then ((impl_in.f a0_1 a0_0 9999).bind fun t236 => (if t236 = true then (if (wrap64 (a0_1 - a0_0)) < 20 then ((impl_in.f a0_2 a0_0 a0_1).bind fun t237 => (some t237)) else (some false)) else (some false))) else (some false))) = some r := h
 clear h
 replace H := Option.bind_eq_some_iff.mp H
 obtain ⟨t235, A20, H⟩ := H
 replace H : (if t235 = true then ((impl_in.f a0_1 a0_0 9999).bind fun t236 => (if t236 = true then (if (wrap64 (a0_1 - a0_0)) < 20 then ((impl_in.f a0_2 a0_0 a0_1).bind fun t237 => (some t237)) else (some false)) else (some false))) else (some false)) = some r := H
 have A2 := Aside0.mk A20
 clear A20
 by_cases c3 : t235 = true
 ·subst c3
  have H1 : ((impl_in.f a0_1 a0_0 9999).bind fun t236 => (if t236 = true then (if (wrap64 (a0_1 - a0_0)) < 20 then ((impl_in.f a0_2 a0_0 a0_1).bind fun t237 => (some t237)) else (some false)) else (some false))) = some r := by rw [if_pos rfl] at H; exact H
  clear H
  have H := H1
  clear H1
  replace H := Option.bind_eq_some_iff.mp H
  obtain ⟨t236, A40, H⟩ := H
  replace H : (if t236 = true then (if (wrap64 (a0_1 - a0_0)) < 20 then ((impl_in.f a0_2 a0_0 a0_1).bind fun t237 => (some t237)) else (some false)) else (some false)) = some r := H
  have A4 := Aside0.mk A40
  clear A40
  by_cases c5 : t236 = true
  ·subst c5
   have H1 : (if (wrap64 (a0_1 - a0_0)) < 20 then ((impl_in.f a0_2 a0_0 a0_1).bind fun t237 => (some t237)) else (some false)) = some r := by rw [if_pos rfl] at H; exact H
   clear H
   have H := H1
   clear H1
   by_cases c6 : (wrap64 (a0_1 - a0_0)) < 20
   ·rw [if_pos c6] at H
    have c6b0 : decide ((wrap64 (a0_1 - a0_0)) < 20) = true := decide_eq_true c6
    clear c6
    replace H := Option.bind_eq_some_iff.mp H
    obtain ⟨t237, A70, H⟩ := H
    replace H : (some t237) = some r := H
    have A7 := Aside0.mk A70
    clear A70
    obtain rfl := Option.some.inj H
    go_enter Try.func88, Try.ntmps88
    go_wp2_with (first | ((with_reducible refine gate_dst (N := 1) rfl ?_); refine box_event ?hg (N := 1) ?hd (cs := #[.int .i64 a0_0, .int .i64 a0_1, .int .i64 a0_2]) (t := 99) ?hr ?_; (case hd => rfl); (case hg => rfl); (case hr => first | (go_simp; done) | (go_simp; rfl)); intro gb234 hg w8 hbox hb; have n0_ := Aside0.mk (below_step (by repeat (first | (with_reducible first | exact HB.out | apply bwA | apply bwN | apply bwD) | exact HB.out)) hb); have n1_ := Aside0.mk (hbox); have n2_ := Aside0.mk ((by rw [hg]; exact (below_size (by repeat (first | (with_reducible first | exact HB.out | apply bwA | apply bwN | apply bwD) | exact HB.out))) : w.heap.size ≤ gb234)); have n3_ := Aside0.mk ((by rw [hg]; exact (below_size (by repeat (first | (with_reducible first | exact HB.out | apply bwA | apply bwN | apply bwD) | exact HB.out))) : w.heap.size ≤ gb234)); clear HB; have HB := n0_; have BK234 := n1_; have GW234 := n2_; have GE234 := n3_; clear n0_ n1_ n2_ n3_; clear hb hbox hg; have hcz9_0 : w8.cell? ⟨gb234, 0, none⟩ = some (.int .i64 a0_0) := (blk_cell BK234.out 0).trans rfl; have hcz9_1 : w8.cell? ⟨gb234, 1, none⟩ = some (.int .i64 a0_1) := (blk_cell BK234.out 1).trans rfl; have hcz9_2 : w8.cell? ⟨gb234, 2, none⟩ = some (.int .i64 a0_2) := (blk_cell BK234.out 2).trans rfl; have hfz9_0 := blk_frozen BK234.out 0; have hfz9_1 := blk_frozen BK234.out 1; have hfz9_2 := blk_frozen BK234.out 2) | ((with_reducible refine gate_callee (f := 62) rfl ?_); refine goesL_ (some 5) rfl rfl Try.func62 (by kernel_rfl) rfl #[.int .i64 a0_0, .int .i64 (-9999), .int .i64 9999] rfl lmB ?_; (with_reducible refine (impl_in.calls a0_0 (-9999) 9999 true _ A2.out).mono ?_); rintro e w' ⟨rfl, ⟨nd, rfl⟩⟩; refine ⟨_, rfl, ?_⟩) | (go_at_call 62; (with_reducible refine (impl_in.calls a0_1 a0_0 9999 true _ A4.out).mono ?_); rintro e w' ⟨rfl, ⟨nd, rfl⟩⟩) | (go_at_call 62; (with_reducible refine (impl_in.calls a0_2 a0_0 a0_1 t237 _ A7.out).mono ?_); rintro e w' ⟨rfl, ⟨nd, rfl⟩⟩))
    go_ret
    exact ⟨ers, by repeat (first | (with_reducible first | exact HB.out | apply bwA | apply bwN | apply bwD | refine below_set ?_ GE234.out) | exact HB.out)⟩
   ·rw [if_neg c6] at H
    have c6b0 : decide ((wrap64 (a0_1 - a0_0)) < 20) = false := decide_eq_false c6
    clear c6
    obtain rfl := Option.some.inj H
    go_enter Try.func88, Try.ntmps88
    go_wp2_with (first | ((with_reducible refine gate_dst (N := 1) rfl ?_); refine box_event ?hg (N := 1) ?hd (cs := #[.int .i64 a0_0, .int .i64 a0_1, .int .i64 a0_2]) (t := 99) ?hr ?_; (case hd => rfl); (case hg => rfl); (case hr => first | (go_simp; done) | (go_simp; rfl)); intro gb234 hg w10 hbox hb; have n0_ := Aside0.mk (below_step (by repeat (first | (with_reducible first | exact HB.out | apply bwA | apply bwN | apply bwD) | exact HB.out)) hb); have n1_ := Aside0.mk (hbox); have n2_ := Aside0.mk ((by rw [hg]; exact (below_size (by repeat (first | (with_reducible first | exact HB.out | apply bwA | apply bwN | apply bwD) | exact HB.out))) : w.heap.size ≤ gb234)); have n3_ := Aside0.mk ((by rw [hg]; exact (below_size (by repeat (first | (with_reducible first | exact HB.out | apply bwA | apply bwN | apply bwD) | exact HB.out))) : w.heap.size ≤ gb234)); clear HB; have HB := n0_; have BK234 := n1_; have GW234 := n2_; have GE234 := n3_; clear n0_ n1_ n2_ n3_; clear hb hbox hg; have hcz11_0 : w10.cell? ⟨gb234, 0, none⟩ = some (.int .i64 a0_0) := (blk_cell BK234.out 0).trans rfl; have hcz11_1 : w10.cell? ⟨gb234, 1, none⟩ = some (.int .i64 a0_1) := (blk_cell BK234.out 1).trans rfl; have hcz11_2 : w10.cell? ⟨gb234, 2, none⟩ = some (.int .i64 a0_2) := (blk_cell BK234.out 2).trans rfl; have hfz11_0 := blk_frozen BK234.out 0; have hfz11_1 := blk_frozen BK234.out 1; have hfz11_2 := blk_frozen BK234.out 2) | ((with_reducible refine gate_callee (f := 62) rfl ?_); refine goesL_ (some 5) rfl rfl Try.func62 (by kernel_rfl) rfl #[.int .i64 a0_0, .int .i64 (-9999), .int .i64 9999] rfl lmB ?_; (with_reducible refine (impl_in.calls a0_0 (-9999) 9999 true _ A2.out).mono ?_); rintro e w' ⟨rfl, ⟨nd, rfl⟩⟩; refine ⟨_, rfl, ?_⟩) | (go_at_call 62; (with_reducible refine (impl_in.calls a0_1 a0_0 9999 true _ A4.out).mono ?_); rintro e w' ⟨rfl, ⟨nd, rfl⟩⟩))
    go_ret
    exact ⟨ers, by repeat (first | (with_reducible first | exact HB.out | apply bwA | apply bwN | apply bwD | refine below_set ?_ GE234.out) | exact HB.out)⟩
  ·replace c5 := Bool.eq_false_iff.mpr c5
   subst c5
   have H1 : (some false) = some r := by rw [if_neg (show ¬ (false = true) by decide)] at H; exact H
   clear H
   have H := H1
   clear H1
   obtain rfl := Option.some.inj H
   go_enter Try.func88, Try.ntmps88
   go_wp2_with (first | ((with_reducible refine gate_dst (N := 1) rfl ?_); refine box_event ?hg (N := 1) ?hd (cs := #[.int .i64 a0_0, .int .i64 a0_1, .int .i64 a0_2]) (t := 99) ?hr ?_; (case hd => rfl); (case hg => rfl); (case hr => first | (go_simp; done) | (go_simp; rfl)); intro gb234 hg w12 hbox hb; have n0_ := Aside0.mk (below_step (by repeat (first | (with_reducible first | exact HB.out | apply bwA | apply bwN | apply bwD) | exact HB.out)) hb); have n1_ := Aside0.mk (hbox); have n2_ := Aside0.mk ((by rw [hg]; exact (below_size (by repeat (first | (with_reducible first | exact HB.out | apply bwA | apply bwN | apply bwD) | exact HB.out))) : w.heap.size ≤ gb234)); have n3_ := Aside0.mk ((by rw [hg]; exact (below_size (by repeat (first | (with_reducible first | exact HB.out | apply bwA | apply bwN | apply bwD) | exact HB.out))) : w.heap.size ≤ gb234)); clear HB; have HB := n0_; have BK234 := n1_; have GW234 := n2_; have GE234 := n3_; clear n0_ n1_ n2_ n3_; clear hb hbox hg; have hcz13_0 : w12.cell? ⟨gb234, 0, none⟩ = some (.int .i64 a0_0) := (blk_cell BK234.out 0).trans rfl; have hcz13_1 : w12.cell? ⟨gb234, 1, none⟩ = some (.int .i64 a0_1) := (blk_cell BK234.out 1).trans rfl; have hcz13_2 : w12.cell? ⟨gb234, 2, none⟩ = some (.int .i64 a0_2) := (blk_cell BK234.out 2).trans rfl; have hfz13_0 := blk_frozen BK234.out 0; have hfz13_1 := blk_frozen BK234.out 1; have hfz13_2 := blk_frozen BK234.out 2) | ((with_reducible refine gate_callee (f := 62) rfl ?_); refine goesL_ (some 5) rfl rfl Try.func62 (by kernel_rfl) rfl #[.int .i64 a0_0, .int .i64 (-9999), .int .i64 9999] rfl lmB ?_; (with_reducible refine (impl_in.calls a0_0 (-9999) 9999 true _ A2.out).mono ?_); rintro e w' ⟨rfl, ⟨nd, rfl⟩⟩; refine ⟨_, rfl, ?_⟩) | (go_at_call 62; (with_reducible refine (impl_in.calls a0_1 a0_0 9999 false _ A4.out).mono ?_); rintro e w' ⟨rfl, ⟨nd, rfl⟩⟩))
   go_ret
   exact ⟨ers, by repeat (first | (with_reducible first | exact HB.out | apply bwA | apply bwN | apply bwD | refine below_set ?_ GE234.out) | exact HB.out)⟩
 ·replace c3 := Bool.eq_false_iff.mpr c3
  subst c3
  have H1 : (some false) = some r := by rw [if_neg (show ¬ (false = true) by decide)] at H; exact H
  clear H
  have H := H1
  clear H1
  obtain rfl := Option.some.inj H
  go_enter Try.func88, Try.ntmps88
  go_wp2_with (first | ((with_reducible refine gate_dst (N := 1) rfl ?_); refine box_event ?hg (N := 1) ?hd (cs := #[.int .i64 a0_0, .int .i64 a0_1, .int .i64 a0_2]) (t := 99) ?hr ?_; (case hd => rfl); (case hg => rfl); (case hr => first | (go_simp; done) | (go_simp; rfl)); intro gb234 hg w14 hbox hb; have n0_ := Aside0.mk (below_step (by repeat (first | (with_reducible first | exact HB.out | apply bwA | apply bwN | apply bwD) | exact HB.out)) hb); have n1_ := Aside0.mk (hbox); have n2_ := Aside0.mk ((by rw [hg]; exact (below_size (by repeat (first | (with_reducible first | exact HB.out | apply bwA | apply bwN | apply bwD) | exact HB.out))) : w.heap.size ≤ gb234)); have n3_ := Aside0.mk ((by rw [hg]; exact (below_size (by repeat (first | (with_reducible first | exact HB.out | apply bwA | apply bwN | apply bwD) | exact HB.out))) : w.heap.size ≤ gb234)); clear HB; have HB := n0_; have BK234 := n1_; have GW234 := n2_; have GE234 := n3_; clear n0_ n1_ n2_ n3_; clear hb hbox hg; have hcz15_0 : w14.cell? ⟨gb234, 0, none⟩ = some (.int .i64 a0_0) := (blk_cell BK234.out 0).trans rfl; have hcz15_1 : w14.cell? ⟨gb234, 1, none⟩ = some (.int .i64 a0_1) := (blk_cell BK234.out 1).trans rfl; have hcz15_2 : w14.cell? ⟨gb234, 2, none⟩ = some (.int .i64 a0_2) := (blk_cell BK234.out 2).trans rfl; have hfz15_0 := blk_frozen BK234.out 0; have hfz15_1 := blk_frozen BK234.out 1; have hfz15_2 := blk_frozen BK234.out 2) | ((with_reducible refine gate_callee (f := 62) rfl ?_); refine goesL_ (some 5) rfl rfl Try.func62 (by kernel_rfl) rfl #[.int .i64 a0_0, .int .i64 (-9999), .int .i64 9999] rfl lmB ?_; (with_reducible refine (impl_in.calls a0_0 (-9999) 9999 false _ A2.out).mono ?_); rintro e w' ⟨rfl, ⟨nd, rfl⟩⟩; refine ⟨_, rfl, ?_⟩))
  go_ret
  exact ⟨ers, by repeat (first | (with_reducible first | exact HB.out | apply bwA | apply bwN | apply bwD | refine below_set ?_ GE234.out) | exact HB.out)⟩

/-! ### impl_Rule_126: function 126 -/
set_option maxHeartbeats 400000 in
theorem impl_Rule_126.calls (g : Nat) (lb : Array Value) (eg : ∀ args w, (callFunc g args).run Try.prog w = .ok (.enter g args) w)
  (A0 : Option Addr) (c0 : Nat) (l0 : List (S109)) (p : Int → Option Bool) (r : Int) (w : World) (hr0 : Kd.C k109 w A0 l0.length l0)
  (hp : ∀ (i : Int), 0 ≤ i → i < l0.length → ∀ b, p i = some b → ∀ W, Below w.heap.size w W → ∀ A0 c0 A1 c1 A2 c2, k73.C W A0 (rd_T109 l0 i).f0.length (rd_T109 l0 i).f0 → (rd_T109 l0 i).f0.length ≤ c0 → (Kd.int .i64).C W A1 (rd_T109 l0 i).f1.length (rd_T109 l0 i).f1 → (rd_T109 l0 i).f1.length ≤ c1 → (Kd.slice 73 k73).C W A2 (rd_T109 l0 i).f2.length (rd_T109 l0 i).f2 → (rd_T109 l0 i).f2.length ≤ c2 → Calls Try.prog g (#[.agg #[.slice A0 (rd_T109 l0 i).f0.length c0, .slice A1 (rd_T109 l0 i).f1.length c1, .slice A2 (rd_T109 l0 i).f2.length c2]] ++ lb) W fun e w' => e = .returned (.bool b) ∧ Below W.heap.size W w')
  (h : Copy.idxO p l0.length 0 = some r) :
  Calls Try.prog 126 #[.slice A0 l0.length c0, .func (.func g) #[] lb] w fun e w' => e = .returned (.int .i64 r) ∧ Below w.heap.size w w' := by
 have hn : l0.length ≤ 9223372036854775807 := hr0.2.1
 have hu_ := Try.underlying109
 have HR0 := Aside0.mk hr0
 have HP := Aside0.mk hp
 have H := Aside0.mk h
 clear hp hr0 h
 go_enter Try.func126, Try.ntmps126
 go_wp2
 go_loopg [5, 8] l0.length (fun gg _ s8 wr => ∃ kk : Int, 0 ≤ kk ∧ kk ≤ (l0.length : Int) ∧ Aside0 (l0.length ≤ gg + kk) ∧ s8 = .int .i64 kk ∧ Aside0 (Below w.heap.size w wr) ∧ Aside0 (Copy.idxO p (l0.length - kk.toNat) kk = some r))
 case atStart => exact ⟨0, by omega, by omega, ⟨by omega⟩, rfl, ⟨Below.refl _ _⟩, H⟩
 case round =>
  clear H
  obtain ⟨kk, h0, hkk, hg, rfl, HB, A⟩ := hrel
  by_cases hlt : kk < (l0.length : Int)
  ·have hltb : decide (kk < (l0.length : Int)) = true := decide_eq_true hlt
   obtain ⟨ad, B0, d0, B1, d1, B2, d2, e1, hx0, hx1, hx2, hl0, hi0, hl1, hi1, hl2, hi2⟩ := at_T109 (Kd.C_below HR0.out HB.out) kk h0 hlt
   cases e1
   have hd : l0.length - kk.toNat = (l0.length - (kk + 1).toNat) + 1 := by omega
   have A1 := A.out
   rw [hd, Copy.idxO] at A1
   clear A hd
   obtain ⟨b, hq, A1⟩ := Option.bind_eq_some_iff.mp A1
   have hcall := Aside0.mk (HP.out kk h0 hlt b hq _ HB.out B0 d0 B1 d1 B2 d2 hi0 hl0 hi1 hl1 hi2 hl2)
   have H0 := Aside0.mk h0
   replace h0 := eq_true h0
   clear hq
   cases b with
   | true =>
    rw [if_pos rfl] at A1
    obtain rfl := Option.some.inj A1
    clear A1
    go_wp2_with (go_at_fn g; refine hcall.out.mono ?_; rintro e w' ⟨rfl, HB1⟩)
    go_ret
    exact ⟨rfl, below_then HB.out HB.out.size HB1⟩
   | false =>
    have A' := Aside0.mk A1
    clear A1
    have hw : wrap64 (kk + 1) = kk + 1 := by have := H0.out; unfold wrap64; omega
    have HW := Aside0.mk hw
    clear hw
    go_wp2_with (go_at_fn g; refine hcall.out.mono ?_; rintro e w' ⟨rfl, HB1⟩)
    go_roundg (l0.length - (kk + 1).toNat)
    case measure => have := hg.out; have := H0.out; omega
    case rel => exact ⟨kk + 1, by have := H0.out; omega, by omega, ⟨by have := H0.out; omega⟩, by first | rfl | rw [HW.out], ⟨below_then HB.out HB.out.size HB1⟩, ⟨by have := A'.out; simpa using this⟩⟩
  ·have hltb : decide (kk < (l0.length : Int)) = false := decide_eq_false hlt
   have this : kk.toNat = l0.length := by omega
   have A1 := A.out
   rw [this, Nat.sub_self, Copy.idxO] at A1
   obtain rfl := Option.some.inj A1
   clear A A1 this
   go_wp2
   go_ret
   exact ⟨rfl, HB.out⟩

/-! ### impl_Rule_89: function 89 -/
set_option maxHeartbeats 400000 in
theorem impl_Rule_89.calls (g : Nat) (lb : Array Value) (eg : ∀ args w, (callFunc g args).run Try.prog w = .ok (.enter g args) w)
  (A0 : Option Addr) (c0 : Nat) (l0 : List (S109)) (p : Int → Option Bool) (r : Int) (w : World) (hr0 : Kd.C k109 w A0 l0.length l0)
  (hp : ∀ (i : Int), 0 ≤ i → i < l0.length → ∀ b, p i = some b → ∀ W, Below w.heap.size w W → ∀ A0 c0 A1 c1 A2 c2, k73.C W A0 (rd_T109 l0 i).f0.length (rd_T109 l0 i).f0 → (rd_T109 l0 i).f0.length ≤ c0 → (Kd.int .i64).C W A1 (rd_T109 l0 i).f1.length (rd_T109 l0 i).f1 → (rd_T109 l0 i).f1.length ≤ c1 → (Kd.slice 73 k73).C W A2 (rd_T109 l0 i).f2.length (rd_T109 l0 i).f2 → (rd_T109 l0 i).f2.length ≤ c2 → Calls Try.prog g (#[.agg #[.slice A0 (rd_T109 l0 i).f0.length c0, .slice A1 (rd_T109 l0 i).f1.length c1, .slice A2 (rd_T109 l0 i).f2.length c2]] ++ lb) W fun e w' => e = .returned (.bool b) ∧ Below W.heap.size W w')
  (h : Copy.idxO p l0.length 0 = some r) :
  Calls Try.prog 89 #[.slice A0 l0.length c0, .func (.func g) #[] lb] w fun e w' => e = .returned (.bool (decide (0 ≤ r))) ∧ Below w.heap.size w w' := by
 have HC := Aside0.mk (impl_Rule_126.calls g lb eg A0 c0 l0 p r w hr0 hp h)
 clear hp hr0 h
 go_enter Try.func89, Try.ntmps89
 go_wp2_with (go_at_call 126; refine HC.out.mono ?_; rintro e w' ⟨rfl, HB1⟩)
 go_ret
 exact ⟨rfl, HB1⟩

/-! ### impl_parts: function 105 -/
mutual
def impl_parts.j0 : Nat → Int → Bool → Option (Int × Int × Int)
 | 0, _, _ => none
 | k + 1, x5, x6 => if x6 = true then (some (2, 1, 1)) else (if x5 = 5 then (impl_parts.j1 k x5 (x5 == 5)) else (impl_parts.j1 k x5 (x5 == 6)))
def impl_parts.j1 : Nat → Int → Bool → Option (Int × Int × Int)
 | 0, _, _ => none
 | k + 1, x5, x10 => if x10 = true then (some (2, 1, 2)) else (if x5 = 7 then (some (1, 2, 2)) else (if x5 = 8 then (some (2, 2, 2)) else (if x5 = 9 then (some (2, 2, 2)) else (some (0, 0, 1)))))
end
def impl_parts.f (k : Nat) (a0 : Int) : Option (Int × Int × Int) := if a0 = 2 then (impl_parts.j0 k a0 (a0 == 2)) else (if a0 = 3 then (impl_parts.j0 k a0 (a0 == 3)) else (impl_parts.j0 k a0 (a0 == 4)))
theorem impl_parts.mono_l : ∀ k, (∀ y0 y1, LeO (impl_parts.j0 k y0 y1) (impl_parts.j0 (k + 1) y0 y1)) ∧ (∀ y0 y1, LeO (impl_parts.j1 k y0 y1) (impl_parts.j1 (k + 1) y0 y1))
 | 0 => ⟨fun _ _ r h => by simp [impl_parts.j0] at h, fun _ _ r h => by simp [impl_parts.j1] at h⟩
 | k + 1 => by
  obtain ⟨ih0, ih1⟩ := impl_parts.mono_l k
  refine ⟨?_, ?_⟩
  ·intro y0 y1
   unfold impl_parts.j0
   repeat' first
   | (with_reducible exact ih0 _ _)
   | (with_reducible exact ih1 _ _)
   | (with_reducible exact LeO.refl _)
   | (with_reducible exact LeO.none _)
   | (with_reducible refine LeO.ite ?_ ?_)
   | (with_reducible refine LeO.bind ?_ (fun _ => ?_))
   | exact ih0 _ _
   | exact ih1 _ _
   | exact LeO.none _
   | refine LeO.ite ?_ ?_
   | refine LeO.bind ?_ (fun _ => ?_)
  ·intro y0 y1
   unfold impl_parts.j1
   repeat' first
   | (with_reducible exact ih0 _ _)
   | (with_reducible exact ih1 _ _)
   | (with_reducible exact LeO.refl _)
   | (with_reducible exact LeO.none _)
   | (with_reducible refine LeO.ite ?_ ?_)
   | (with_reducible refine LeO.bind ?_ (fun _ => ?_))
   | exact ih0 _ _
   | exact ih1 _ _
   | exact LeO.none _
   | refine LeO.ite ?_ ?_
   | refine LeO.bind ?_ (fun _ => ?_)
theorem impl_parts.mono : ∀ a0 k, LeO (impl_parts.f k a0) (impl_parts.f (k + 1) a0) := by
 intro a0 k
 obtain ⟨ih0, ih1⟩ := impl_parts.mono_l k
 unfold impl_parts.f
 repeat' first
   | (with_reducible exact ih0 _ _)
   | (with_reducible exact ih1 _ _)
   | (with_reducible exact LeO.refl _)
   | (with_reducible exact LeO.none _)
   | (with_reducible refine LeO.ite ?_ ?_)
   | (with_reducible refine LeO.bind ?_ (fun _ => ?_))
   | exact ih0 _ _
   | exact ih1 _ _
   | exact LeO.none _
   | refine LeO.ite ?_ ?_
   | refine LeO.bind ?_ (fun _ => ?_)
set_option maxHeartbeats 8000000 in
set_option maxRecDepth 100000 in
theorem impl_parts.calls (k : Nat) (a0 : Int) (r1 : Int) (r2 : Int) (r3 : Int) (w : World) (h : impl_parts.f k a0 = some (r1, r2, r3)) :
  Calls Try.prog 105 #[.int .i64 a0] w fun e w' => e = .returned (.tuple #[.int .i64 r1, .int .i64 r2, .int .i64 r3]) ∧ Drawn0 w w' := by
 have H : (if a0 = 2 then (impl_parts.j0 k a0 (a0 == 2)) else (if a0 = 3 then (impl_parts.j0 k a0 (a0 == 3)) else (impl_parts.j0 k a0 (a0 == 4)))) = some (r1, r2, r3) := h
 clear h
 have HC2 := Aside0.mk H
 clear H
 go_enter Try.func105, Try.ntmps105
 go_upto_if 6 with (fail)
 go_cut [6] (fun v6 wc => ∃ (kq : Nat) (x6_1 : Bool), v6 = .bool x6_1 ∧ Aside0 (impl_parts.j0 kq a0 x6_1 = some (r1, r2, r3)) ∧ Aside0 (kq ≤ k) ∧ Drawn0 w wc)
 case first =>
  have H := HC2.out
  clear HC2
  by_cases c3 : a0 = 2
  ·rw [if_pos c3] at H
   have c3b0 : (a0 == 2) = true := beq_iff_eq.mpr c3
   have c3b1 : (a0 != 2) = false := bne_eq_false_iff_eq.mpr c3
   clear c3
   (first | rw [c3b0] | (simp only [i64_w, i32_w]; rw [c3b0]) | skip)
   have H' := Aside0.mk H
   clear H
   go_wp2
   go_meet
   case rel => exact ⟨_, ((a0 == 2)), rsd, H', ⟨by first | omega | exact Nat.le_refl _⟩, by repeat (first | exact Drawn0.refl _ | apply Drawn0.step)⟩
  ·rw [if_neg c3] at H
   have c3b0 : (a0 == 2) = false := beq_eq_false_iff_ne.mpr c3
   have c3b1 : (a0 != 2) = true := bne_iff_ne.mpr c3
   (first | rw [c3b0] | (simp only [i64_w, i32_w]; rw [c3b0]) | skip)
   by_cases c4 : a0 = 3
   ·rw [if_pos c4] at H
    have c4b0 : (a0 == 3) = true := beq_iff_eq.mpr c4
    have c4b1 : (a0 != 3) = false := bne_eq_false_iff_eq.mpr c4
    clear c4
    have H' := Aside0.mk H
    clear H
    go_wp2
    go_meet
    case rel => exact ⟨_, ((a0 == 3)), rsd, H', ⟨by first | omega | exact Nat.le_refl _⟩, by repeat (first | exact Drawn0.refl _ | apply Drawn0.step)⟩
   ·rw [if_neg c4] at H
    have c4b0 : (a0 == 3) = false := beq_eq_false_iff_ne.mpr c4
    have c4b1 : (a0 != 3) = true := bne_iff_ne.mpr c4
    have H' := Aside0.mk H
    clear H
    go_wp2
    go_meet
    case rel => exact ⟨_, ((a0 == 4)), rsd, H', ⟨by first | omega | exact Nat.le_refl _⟩, by repeat (first | exact Drawn0.refl _ | apply Drawn0.step)⟩
 case rest =>
  clear HC2
  try clear c1
  try clear p2
  try clear c3
  try clear c3b0
  try clear c3b1
  try clear c4
  try clear c4b0
  try clear c4b1
  obtain ⟨kq, x6_1, rfl, HA, HJ1, ⟨mc1, rfl⟩⟩ := hcut
  cases kq with
  | zero => exact absurd HA.out (by simp [impl_parts.j0])
  | succ kj1 =>
   have H := HA.out
   clear HA
   simp only [impl_parts.j0] at H
   by_cases c5 : x6_1 = true
   ·subst c5
    have H1 : (some (2, 1, 1)) = some (r1, r2, r3) := by rw [if_pos rfl] at H; exact H
    clear H
    have H := H1
    clear H1
    simp only [Option.some.injEq, Prod.mk.injEq] at H
    obtain ⟨rfl, rfl, rfl⟩ := H
    go_wp2
    go_ret3
    exact ⟨by first | rfl | (simp; done) | (simp [*]; done), by repeat (first | exact Drawn0.refl _ | apply Drawn0.step)⟩
   ·replace c5 := Bool.eq_false_iff.mpr c5
    subst c5
    have H1 : (if a0 = 5 then (impl_parts.j1 kj1 a0 (a0 == 5)) else (impl_parts.j1 kj1 a0 (a0 == 6))) = some (r1, r2, r3) := by rw [if_neg (show ¬ (false = true) by decide)] at H; exact H
    clear H
    have H := H1
    clear H1
    have HC6 := Aside0.mk H
    clear H
    go_upto_if 10 with (fail)
    go_cut [10] (fun v10 wc => ∃ (kq : Nat) (x10_5 : Bool), v10 = .bool x10_5 ∧ Aside0 (impl_parts.j1 kq a0 x10_5 = some (r1, r2, r3)) ∧ Aside0 (kq ≤ kj1) ∧ Drawn0 w wc)
    case first =>
     have H := HC6.out
     clear HC6
     by_cases c7 : a0 = 5
     ·rw [if_pos c7] at H
      have c7b0 : (a0 == 5) = true := beq_iff_eq.mpr c7
      have c7b1 : (a0 != 5) = false := bne_eq_false_iff_eq.mpr c7
      clear c7
      (first | rw [c7b0] | (simp only [i64_w, i32_w]; rw [c7b0]) | skip)
      have H' := Aside0.mk H
      clear H
      go_wp2
      go_meet
      case rel => exact ⟨_, ((a0 == 5)), rsd, H', ⟨by have := HJ1.out; first | omega | exact Nat.le_refl _⟩, by repeat (first | exact Drawn0.refl _ | apply Drawn0.step)⟩
     ·rw [if_neg c7] at H
      have c7b0 : (a0 == 5) = false := beq_eq_false_iff_ne.mpr c7
      have c7b1 : (a0 != 5) = true := bne_iff_ne.mpr c7
      (first | rw [c7b0] | (simp only [i64_w, i32_w]; rw [c7b0]) | skip)
      have H' := Aside0.mk H
      clear H
      go_wp2
      go_meet
      case rel => exact ⟨_, ((a0 == 6)), rsd, H', ⟨by have := HJ1.out; first | omega | exact Nat.le_refl _⟩, by repeat (first | exact Drawn0.refl _ | apply Drawn0.step)⟩
    case rest =>
     clear HC6
     try clear c1
     try clear p2
     try clear c3
     try clear c3b0
     try clear c3b1
     try clear c4
     try clear c4b0
     try clear c4b1
     try clear c5
     try clear c7
     try clear c7b0
     try clear c7b1
     try clear p2
     obtain ⟨kq, x10_5, rfl, HA, HJ5, ⟨mc5, rfl⟩⟩ := hcut
     cases kq with
     | zero => exact absurd HA.out (by simp [impl_parts.j1])
     | succ kj5 =>
      have H := HA.out
      clear HA
      simp only [impl_parts.j1] at H
      by_cases c8 : x10_5 = true
      ·subst c8
       have H1 : (some (2, 1, 2)) = some (r1, r2, r3) := by rw [if_pos rfl] at H; exact H
       clear H
       have H := H1
       clear H1
       simp only [Option.some.injEq, Prod.mk.injEq] at H
       obtain ⟨rfl, rfl, rfl⟩ := H
       go_wp2
       go_ret3
       exact ⟨by first | rfl | (simp; done) | (simp [*]; done), by repeat (first | exact Drawn0.refl _ | apply Drawn0.step)⟩
      ·replace c8 := Bool.eq_false_iff.mpr c8
       subst c8
       have H1 : (if a0 = 7 then (some (1, 2, 2)) else (if a0 = 8 then (some (2, 2, 2)) else (if a0 = 9 then (some (2, 2, 2)) else (some (0, 0, 1))))) = some (r1, r2, r3) := by rw [if_neg (show ¬ (false = true) by decide)] at H; exact H
       clear H
       have H := H1
       clear H1
       by_cases c9 : a0 = 7
       ·rw [if_pos c9] at H
        have c9b0 : (a0 == 7) = true := beq_iff_eq.mpr c9
        have c9b1 : (a0 != 7) = false := bne_eq_false_iff_eq.mpr c9
        clear c9
        simp only [Option.some.injEq, Prod.mk.injEq] at H
        obtain ⟨rfl, rfl, rfl⟩ := H
        go_wp2
        go_ret3
        exact ⟨by first | rfl | (simp; done) | (simp [*]; done), by repeat (first | exact Drawn0.refl _ | apply Drawn0.step)⟩
       ·rw [if_neg c9] at H
        have c9b0 : (a0 == 7) = false := beq_eq_false_iff_ne.mpr c9
        have c9b1 : (a0 != 7) = true := bne_iff_ne.mpr c9
        by_cases c10 : a0 = 8
        ·rw [if_pos c10] at H
         have c10b0 : (a0 == 8) = true := beq_iff_eq.mpr c10
         have c10b1 : (a0 != 8) = false := bne_eq_false_iff_eq.mpr c10
         clear c10
         simp only [Option.some.injEq, Prod.mk.injEq] at H
         obtain ⟨rfl, rfl, rfl⟩ := H
         go_wp2
         go_ret3
         exact ⟨by first | rfl | (simp; done) | (simp [*]; done), by repeat (first | exact Drawn0.refl _ | apply Drawn0.step)⟩
        ·rw [if_neg c10] at H
         have c10b0 : (a0 == 8) = false := beq_eq_false_iff_ne.mpr c10
         have c10b1 : (a0 != 8) = true := bne_iff_ne.mpr c10
         by_cases c11 : a0 = 9
         ·rw [if_pos c11] at H
          have c11b0 : (a0 == 9) = true := beq_iff_eq.mpr c11
          have c11b1 : (a0 != 9) = false := bne_eq_false_iff_eq.mpr c11
          clear c11
          simp only [Option.some.injEq, Prod.mk.injEq] at H
          obtain ⟨rfl, rfl, rfl⟩ := H
          go_wp2
          go_ret3
          exact ⟨by first | rfl | (simp; done) | (simp [*]; done), by repeat (first | exact Drawn0.refl _ | apply Drawn0.step)⟩
         ·rw [if_neg c11] at H
          have c11b0 : (a0 == 9) = false := beq_eq_false_iff_ne.mpr c11
          have c11b1 : (a0 != 9) = true := bne_iff_ne.mpr c11
          simp only [Option.some.injEq, Prod.mk.injEq] at H
          obtain ⟨rfl, rfl, rfl⟩ := H
          go_wp2
          go_ret3
          exact ⟨by first | rfl | (simp; done) | (simp [*]; done), by repeat (first | exact Drawn0.refl _ | apply Drawn0.step)⟩

end Go.Proofs.Ytpfkgmcbogcmoaa.QFnExactSizeOf
