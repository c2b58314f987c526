-- Written by a program of this session (mk.py). Lean checks it.
import Derived.Test.YtpfkgmcbogcmoaaQFnExactRulesSetx0
import Derived.Test.YtpfkgmcbogcmoaaQFnExactRulesSetx1
namespace Go.Proofs.Ytpfkgmcbogcmoaa.QFnExactRulesSet
open Go.RowKit Go.Proofs.YtpfkgmcbogcmoaaW.PrintWords Go.Proofs.YtpfkgmcbogcmoaaW.PrintLast Go.Proofs.YtpfkgmcbogcmoaaW.PrintMore
attribute [local go_sem] max2_int min2_int max_two min_two max_three min_three max_four min_four   -- for this text's walks alone
set_option linter.unusedVariables false
set_option linter.unusedSimpArgs false

/-! ### laws_toVarS: function 78 -/
def laws_toVarS.l0 : Nat → List (S133) → List (S99) → Int → Option ((List (S99)))
 | 0, _, _, _ => none
 | k + 1, x0, x3, x4 => if x4 < (x0.length : Int) then (if 0 ≤ x4 then ((laws_toVar.f ((rd_T133 x0 x4).f0) ((rd_T133 x0 x4).f1) ((rd_T133 x0 x4).f2)).bind fun bt126 => (if x4 < (x3.length : Int) then (laws_toVarS.l0 k x0 (x3.set (x4 : Int).toNat (⟨bt126.1, bt126.2.1, bt126.2.2⟩ : S99)) (wrap64 (x4 + 1))) else (none))) else (none)) else (some x3)
def laws_toVarS.f (k : Nat) (l0 : List (S133)) : Option ((List (S99))) := if 0 ≤ (l0.length : Int) then (if ((l0.length : Int) : Int).toNat ≤ 11728124029610 then (laws_toVarS.l0 k l0 (List.replicate ((l0.length : Int) : Int).toNat z99) 0) else (none)) else (none)
theorem laws_toVarS.mono_l : ∀ k, (∀ y0 y1 y2, LeO (laws_toVarS.l0 k y0 y1 y2) (laws_toVarS.l0 (k + 1) y0 y1 y2))
 | 0 => fun _ _ _ r h => by simp [laws_toVarS.l0] at h
 | k + 1 => by
  have ih0 := laws_toVarS.mono_l k
  ·intro y0 y1 y2
   unfold laws_toVarS.l0
   repeat' first
   | (with_reducible exact ih0 _ _ _)
   | (with_reducible exact LeO.refl _)
   | (with_reducible exact LeO.none _)
   | (with_reducible refine LeO.ite ?_ ?_)
   | (with_reducible refine LeO.bind ?_ (fun _ => ?_))
   | exact ih0 _ _ _
   | exact LeO.none _
   | refine LeO.ite ?_ ?_
   | refine LeO.bind ?_ (fun _ => ?_)
theorem laws_toVarS.mono : ∀ a0 k, LeO (laws_toVarS.f k a0) (laws_toVarS.f (k + 1) a0) := by
 intro a0 k
 have ih0 := laws_toVarS.mono_l k
 unfold laws_toVarS.f
 repeat' first
   | (with_reducible exact ih0 _ _ _)
   | (with_reducible exact LeO.refl _)
   | (with_reducible exact LeO.none _)
   | (with_reducible refine LeO.ite ?_ ?_)
   | (with_reducible refine LeO.bind ?_ (fun _ => ?_))
   | exact ih0 _ _ _
   | exact LeO.none _
   | refine LeO.ite ?_ ?_
   | refine LeO.bind ?_ (fun _ => ?_)
set_option maxHeartbeats 8000000 in
set_option maxRecDepth 100000 in
theorem laws_toVarS.calls (k : Nat) (A0 : Option Addr) (c0 : Nat) (l0 : List (S133)) (r : List (S99)) (w : World) (hr0 : Kd.C k133 w A0 l0.length l0) (hc0 : l0.length ≤ c0) (h : laws_toVarS.f k l0 = some r) :
  Calls Try.prog 78 #[.slice A0 l0.length c0] w fun e w' => ∃ v0_ : Value, e = .returned (v0_) ∧ Kd.R k99 99 w' w.heap.size (fun _ => True) v0_ r ∧ Below w.heap.size w w' := by
 have hu133 := Try.underlying133
 have hu99 := Try.underlying99
 have HR0 := Aside0.mk hr0
 have HC0 := Aside0.mk hc0
 clear hr0 hc0
 have HB := Aside0.mk (Below.refl w.heap.size w)
 have H : (if 0 ≤ (l0.length : Int) then (if ((l0.length : Int) : Int).toNat ≤ 11728124029610 then (laws_toVarS.l0 k l0 (List.replicate ((l0.length : Int) : Int).toNat z99) 0) else (none)) else (none)) = some r := h
 clear h
 by_cases c2 : 0 ≤ (l0.length : Int)
 ·rw [if_pos c2] at H
  have c2b0 := eq_true c2
  have c2b1 : decide (0 ≤ (l0.length : Int)) = true := decide_eq_true c2
  clear c2
  by_cases c3 : ((l0.length : Int) : Int).toNat ≤ 11728124029610
  ·rw [if_pos c3] at H
   have c3b0 := eq_true c3
   have c3b1 : decide (((l0.length : Int) : Int).toNat ≤ 11728124029610) = true := decide_eq_true c3
   clear c3
   obtain ⟨y122, hy122⟩ : ∃ y_ : List (S99), y_ = (List.replicate ((l0.length : Int) : Int).toNat z99) := ⟨_, rfl⟩
   replace H : (laws_toVarS.l0 k l0 y122 0) = some r := by first | (rw [hy122]; with_reducible exact H) | (have H2_ := (Option.bind_some _ _).symm.trans H; rw [hy122]; with_reducible exact H2_) | (have H2_ := (Option.bind_some _ _).symm.trans H; with_reducible exact H2_) | with_reducible exact H | (rw [hy122]; exact H) | exact H
   have Ny122 := Aside0.mk hy122
   clear hy122
   have H' := Aside0.mk H
   clear H
   go_enter Try.func78, Try.ntmps78
   go_wp2_with (first | ((with_reducible refine gate_dst (N := 7) rfl ?_); refine Kd.R_make k99 _ 99 rfl (N := 7) rfl 55 _ _ rfl (l0.length : Int) rfl rfl Try.underlying55 (.agg #[(.int .i64 0), (.int .i64 0), (.int .i64 0)]) 24 info99 rfl (by decide) (by omega) z99 (ok := fun _ => True) (okp := fun _ => True) (k99_mkM _ _ _ z99 ) (fun _ hk => hk) trivial (oda) (Nat.le_trans (Nat.mul_le_mul_right _ (oda : (l0.length : Int).toNat ≤ 11728124029610)) (by omega)) (Below.refl _ _) (Nat.le_refl _) ?_; intro v123 w4 ho5 hb hg_ hnew_; clear hg_ hnew_; (first | rw [← Ny122.out] at ho5 | (simp only [Int.reduceToNat] at ho5; rw [← Ny122.out] at ho5)); have n0_ := Aside0.mk (Kd.R_lower ho5 (below_size (by repeat (first | (with_reducible first | exact HB.out | apply bwA | apply bwN | apply bwD) | exact HB.out)))); have n1_ := Aside0.mk (below_step (by repeat (first | (with_reducible first | exact HB.out | apply bwA | apply bwN | apply bwD) | exact HB.out)) hb); clear HB; have HO124 := n0_; have HB := n1_; clear n0_ n1_; clear hb ho5))
   go_loopg [4] k (fun kq v4 w' => ∃ (x3_1 : List (S99)) (x4_1 : Int), v4 = .int .i64 x4_1 ∧ Aside0 (laws_toVarS.l0 kq l0 x3_1 x4_1 = some r) ∧ Aside0 (kq ≤ k) ∧ Aside0 (Kd.R k99 99 w' w.heap.size (fun _ => True) v123 x3_1) ∧ Aside0 (Below w.heap.size w w'))
   case atStart => exact ⟨(y122), (0), rsd, H', ⟨Nat.le_refl _⟩, ⟨rvR HO124.out⟩, ⟨by repeat (first | (with_reducible first | exact HB.out | apply bwA | apply bwN | apply bwD) | exact HB.out)⟩⟩
   case round =>
    clear H'
    try clear c2
    try clear c2b0
    try clear c2b1
    try clear p2
    try clear c3
    try clear c3b0
    try clear c3b1
    obtain ⟨x3_1, x4_1, rfl, HA, HK1, HO_3, HB⟩ := hrel
    cases gk with
    | zero => exact absurd HA.out (by simp [laws_toVarS.l0])
    | succ k1 =>
     have H := HA.out
     clear HA
     simp only [laws_toVarS.l0] at H
     by_cases c6 : x4_1 < (l0.length : Int)
     ·rw [if_pos c6] at H
      have c6b0 : decide (x4_1 < (l0.length : Int)) = true := decide_eq_true c6
      clear c6
      by_cases c7 : 0 ≤ x4_1
      ·rw [if_pos c7] at H
       have c7b0 : decide (0 ≤ x4_1) = true := decide_eq_true c7
       clear c7
       replace H := Option.bind_eq_some_iff.mp H
       obtain ⟨⟨t126, t127, t128⟩, A80, H⟩ := H
       replace H : (if x4_1 < (x3_1.length : Int) then (laws_toVarS.l0 k1 l0 (x3_1.set (x4_1 : Int).toNat (⟨t126, t127, t128⟩ : S99)) (wrap64 (x4_1 + 1))) else (none)) = some r := H
       have A8 := Aside0.mk A80
       clear A80
       by_cases c9 : x4_1 < (x3_1.length : Int)
       ·rw [if_pos c9] at H
        have c9b0 : decide (x4_1 < (x3_1.length : Int)) = true := decide_eq_true c9
        clear c9
        obtain ⟨y129, hy129⟩ : ∃ y_ : List (S99), y_ = (x3_1.set (x4_1 : Int).toNat (⟨t126, t127, t128⟩ : S99)) := ⟨_, rfl⟩
        replace H : (laws_toVarS.l0 k1 l0 y129 (wrap64 (x4_1 + 1))) = some r := by first | (rw [hy129]; with_reducible exact H) | (have H2_ := (Option.bind_some _ _).symm.trans H; rw [hy129]; with_reducible exact H2_) | (have H2_ := (Option.bind_some _ _).symm.trans H; with_reducible exact H2_) | with_reducible exact H | (rw [hy129]; exact H) | exact H
        have Ny129 := Aside0.mk hy129
        clear hy129
        have H' := Aside0.mk H
        clear H
        have p125 : 0 ≤ (x4_1 : Int) := oda
        have q125 : x4_1 < (l0.length : Int) := oda
        obtain ⟨ad125, e125, hx125_0, hx125_1, hx125_2⟩ := at_T133 HR0.out x4_1 p125 q125
        cases e125
        try replace hx125_0 := bct HB.out hx125_0
        try replace hx125_1 := bct HB.out hx125_1
        try replace hx125_2 := bct HB.out hx125_2
        replace p125 := eq_true p125
        replace q125 := eq_true q125
        go_wp2_with (first | ((with_reducible refine gate_callee (f := 119) rfl ?_); refine goesL_ (some 20) rfl rfl Try.func119 (by kernel_rfl) rfl #[.agg #[.int .i64 ((rd_T133 l0 x4_1).f0), .int .i64 ((rd_T133 l0 x4_1).f1), .int .i64 ((rd_T133 l0 x4_1).f2)]] rfl lmB ?_; (with_reducible refine (laws_toVar.calls ((rd_T133 l0 x4_1).f0) ((rd_T133 l0 x4_1).f1) ((rd_T133 l0 x4_1).f2) t126 t127 t128 _ A8.out).mono ?_); rintro e w11 ⟨rfl, hb⟩; refine ⟨_, rfl, ?_⟩; have n0_ := Aside0.mk (Kd.R_below (rvR HO_3.out) hb); have n1_ := Aside0.mk (below_step (by repeat (first | (with_reducible first | exact HB.out | apply bwA | apply bwN | apply bwD) | exact HB.out)) hb); clear HO_3; clear HB; have HO_3 := n0_; have HB := n1_; clear n0_ n1_; (try clear hb); (try clear hb2); (try clear hk); (try clear hi); have p10 : 0 ≤ (x4_1 : Int) := oda; have q10 : (x4_1 : Int) < ((x3_1.length : Int) : Int) := oda; obtain ⟨go10, co10, eo10, gb10, gl10, cl10, HG10⟩ := Kd.R_form HO_3.out (by omega); (first | cases eo10 | (injection eo10 with ea_ en_ ec_; (first | subst ea_ | (injection ea_ with ea_; subst ea_)); subst ec_; clear en_)); have GB10 := Aside0.mk gb10; have GG10 := Aside0.mk HG10; clear gb10 gl10 HG10; obtain ⟨ce10, hcl10, hM10, hcc10, hfr10⟩ := Kd.R_elem HO_3.out z99 (x4_1 : Int) p10 q10; obtain rfl := k99_openM hM10; have hx10_0 : w11.cell? ⟨go10, (x4_1 : Int).toNat * 3, none⟩ = some (.int .i64 ((rd_T99 x3_1 x4_1).f0)) := hcc10 0 _ rfl; have hx10_1 : w11.cell? ⟨go10, (x4_1 : Int).toNat * 3 + 1, none⟩ = some (.int .i64 ((rd_T99 x3_1 x4_1).f1)) := hcc10 1 _ rfl; have hx10_2 : w11.cell? ⟨go10, (x4_1 : Int).toNat * 3 + 2, none⟩ = some (.int .i64 ((rd_T99 x3_1 x4_1).f2)) := hcc10 2 _ rfl; have hf10_0 : w11.frozen? ⟨go10, (x4_1 : Int).toNat * 3, none⟩ = false := hfr10 0; have hf10_1 : w11.frozen? ⟨go10, (x4_1 : Int).toNat * 3 + 1, none⟩ = false := hfr10 1; have hf10_2 : w11.frozen? ⟨go10, (x4_1 : Int).toNat * 3 + 2, none⟩ = false := hfr10 2; clear hcl10 hcc10 hfr10; (try clear hM10); replace p10 := eq_true p10; replace q10 := eq_true q10; have HX12 := Aside0.mk (show Kd.R k99 99 w11 w.heap.size (fun _ => True) (.slice (some ⟨go10, 0, none⟩) x3_1.length co10) x3_1 from (rvR HO_3.out)); obtain ⟨ce12, hcl12, hM12, hcc12, hfr12⟩ := Kd.R_elem HX12.out z99 (x4_1 : Int) (oda) (by have h_ : (x4_1 : Int) < ((x3_1.length : Int) : Int) := oda; first | exact h_ | (have e_ := (Kd.R_reads' HO_3.out).1; omega) | simpa using h_); obtain rfl := k99_openM hM12; have HP12 := Kd.R_seg HX12.out (x4_1 : Int) (oda) (by have h_ : (x4_1 : Int) < ((x3_1.length : Int) : Int) := oda; first | exact h_ | (have e_ := (Kd.R_reads' HO_3.out).1; omega) | simpa using h_) (seg := [.int .i64 t126, .int .i64 t127, .int .i64 t128]) (j := 0) hcl12 hcc12 (show 3 ≤ 3 from by decide) (x' := (⟨t126, t127, t128⟩ : S99)) (k99_mkM _ _ _ (⟨t126, t127, t128⟩ : S99) ) (fun _ hk => hk); have hx12_0 := hcc12 0 _ rfl; (try simp only [show (k99).sz = 3 from rfl, Nat.mul_one, Nat.add_zero] at hx12_0); have hf12_0 := hfr12 0; (try simp only [show (k99).sz = 3 from rfl, Nat.mul_one, Nat.add_zero] at hf12_0); have hx12_1 := hcc12 1 _ rfl; (try simp only [show (k99).sz = 3 from rfl, Nat.mul_one, Nat.add_zero] at hx12_1); have hf12_1 := hfr12 1; (try simp only [show (k99).sz = 3 from rfl, Nat.mul_one, Nat.add_zero] at hf12_1); have hx12_2 := hcc12 2 _ rfl; (try simp only [show (k99).sz = 3 from rfl, Nat.mul_one, Nat.add_zero] at hx12_2); have hf12_2 := hfr12 2; (try simp only [show (k99).sz = 3 from rfl, Nat.mul_one, Nat.add_zero] at hf12_2); clear hcl12 hcc12 hfr12; (try clear hM12)) | ((with_reducible refine gate_store (t := 99) (p := 21) rfl ?_); refine store_event (t := 99) (p := 21) (v := ?vo_w13) (w1 := (((w11.setCell ⟨go10, (x4_1 : Int).toNat * 3, none⟩ (.int .i64 t126)).setCell ⟨go10, (x4_1 : Int).toNat * 3 + 1, none⟩ (.int .i64 t127)).setCell ⟨go10, (x4_1 : Int).toNat * 3 + 2, none⟩ (.int .i64 t128))) ?hg ?ho ?hn ?hr ?_; (case ho => rfl); (case hg => rfl); (case hn => rfl); (case hr => first | (go_simp; done) | (go_simp; rfl)); intro w13 hw; have hg : w11.grownBy w13 (some go10) := (by rw [hw]; exact HP12.2); have hp_ : Kd.R k99 99 w13 w.heap.size (fun _ => True) (.slice (some ⟨go10, 0, none⟩) x3_1.length co10) y129 := (by rw [hw, Ny129.out]; exact HP12.1); clear HP12; have n0_ := Aside0.mk (hp_); have n1_ := Aside0.mk ((by rw [hw]; exact below_set (below_set (below_set (HB.out) GB10.out) GB10.out) GB10.out : Below w.heap.size w w13)); clear HO_3; clear HB; have HO_3 := n0_; have HB := n1_; clear n0_ n1_; clear hg hw hp_))
        go_roundg k1
        case measure => have := HK1.out; omega
        case rel => exact ⟨(y129), (wrap64 (x4_1 + 1)), rsd, H', ⟨by have := HK1.out; omega⟩, ⟨rvR HO_3.out⟩, ⟨by repeat (first | (with_reducible first | exact HB.out | apply bwA | apply bwN | apply bwD) | exact HB.out)⟩⟩
       ·rw [if_neg c9] at H
        exact absurd H (by simp)
      ·rw [if_neg c7] at H
       exact absurd H (by simp)
     ·rw [if_neg c6] at H
      have c6b0 : decide (x4_1 < (l0.length : Int)) = false := decide_eq_false c6
      clear c6
      obtain rfl := Option.some.inj H
      go_wp2
      go_ret
      exact ⟨_, ers, by (with_reducible repeat (first | apply Kd.R_alloc | apply Kd.R_drewN | apply Kd.R_drew)); exact HO_3.out, by repeat (first | (with_reducible first | exact HB.out | apply bwA | apply bwN | apply bwD) | exact HB.out)⟩
  ·rw [if_neg c3] at H
   exact absurd H (by simp)
 ·rw [if_neg c2] at H
  exact absurd H (by simp)

/-! ### laws_toTerm: function 55 -/
def laws_toTerm.f (a0_0 : Int) (a0_1 : Int) (a0_2 : Int) (a0_3 : Int) : Option (Int × Int × Int × Int) := some (a0_0, a0_1, a0_2, a0_3)
set_option maxHeartbeats 8000000 in
set_option maxRecDepth 100000 in
theorem laws_toTerm.calls (a0_0 : Int) (a0_1 : Int) (a0_2 : Int) (a0_3 : Int) (r1 : Int) (r2 : Int) (r3 : Int) (r4 : Int) (w : World) (h : laws_toTerm.f a0_0 a0_1 a0_2 a0_3 = some (r1, r2, r3, r4)) :
  Calls Try.prog 55 #[.agg #[.int .i64 a0_0, .int .i64 a0_1, .int .i64 a0_2, .int .i64 a0_3]] w fun e w' => e = .returned (.agg #[.int .i64 r1, .int .i64 r2, .int .i64 r3, .int .i64 r4]) ∧ Below w.heap.size w w' := by
 have hu75 := Try.underlying75
 have hu73 := Try.underlying73
 have HB := Aside0.mk (Below.refl w.heap.size w)
 have H : (some (a0_0, a0_1, a0_2, a0_3)) = some (r1, r2, r3, r4) := h
 clear h
 simp only [Option.some.injEq, Prod.mk.injEq] at H
 obtain ⟨rfl, rfl, rfl, rfl⟩ := H
 go_enter Try.func55, Try.ntmps55
 go_wp2_with (first | ((with_reducible refine gate_dst (N := 1) rfl ?_); refine box_event ?hg (N := 1) ?hd (cs := #[.int .i64 a0_0, .int .i64 a0_1, .int .i64 a0_2, .int .i64 a0_3]) (t := 75) ?hr ?_; (case hd => rfl); (case hg => rfl); (case hr => first | (go_simp; done) | (go_simp; rfl)); intro gb130 hg w2 hbox hb; have n0_ := Aside0.mk (below_step (by repeat (first | (with_reducible first | exact HB.out | apply bwA | apply bwN | apply bwD) | exact HB.out)) hb); have n1_ := Aside0.mk (hbox); have n2_ := Aside0.mk ((by rw [hg]; exact (below_size (by repeat (first | (with_reducible first | exact HB.out | apply bwA | apply bwN | apply bwD) | exact HB.out))) : w.heap.size ≤ gb130)); have n3_ := Aside0.mk ((by rw [hg]; exact (below_size (by repeat (first | (with_reducible first | exact HB.out | apply bwA | apply bwN | apply bwD) | exact HB.out))) : w.heap.size ≤ gb130)); clear HB; have HB := n0_; have BK130 := n1_; have GW130 := n2_; have GE130 := n3_; clear n0_ n1_ n2_ n3_; clear hb hbox hg) | ((with_reducible refine gate_dst (N := 2) rfl ?_); refine box_event ?hg (N := 2) ?hd (cs := #[.int .i64 0, .int .i64 0, .int .i64 0, .int .i64 0]) (t := 73) ?hr ?_; (case hd => rfl); (case hg => rfl); (case hr => first | (go_simp; done) | (go_simp; rfl)); intro gb131 hg w3 hbox hb; have n0_ := Aside0.mk (blk_below (g := gb130) (o := .cells #[.int .i64 a0_0, .int .i64 a0_1, .int .i64 a0_2, .int .i64 a0_3] 75 (0, 0)) (bvK BK130.out) hb); have n1_ := Aside0.mk (below_step (by repeat (first | (with_reducible first | exact HB.out | apply bwA | apply bwN | apply bwD | refine below_set ?_ GE130.out) | exact HB.out)) hb); have n2_ := Aside0.mk (hbox); have n3_ := Aside0.mk ((by rw [hg]; exact (below_size (by repeat (first | (with_reducible first | exact HB.out | apply bwA | apply bwN | apply bwD | refine below_set ?_ GE130.out) | exact HB.out))) : w.heap.size ≤ gb131)); have n4_ := Aside0.mk ((by rw [hg]; exact (below_size (by repeat (first | (with_reducible first | exact HB.out | apply bwA | apply bwN | apply bwD | refine below_set ?_ GE130.out) | exact HB.out))) : w.heap.size ≤ gb131)); have n5_ := Aside0.mk ((by rw [hg]; exact Nat.ne_of_lt (blk_lt (g := gb130) (o := .cells #[.int .i64 a0_0, .int .i64 a0_1, .int .i64 a0_2, .int .i64 a0_3] 75 (0, 0)) (bvK BK130.out)) : gb130 ≠ gb131)); have n6_ := Aside0.mk ((by rw [hg]; exact Nat.ne_of_gt (blk_lt (g := gb130) (o := .cells #[.int .i64 a0_0, .int .i64 a0_1, .int .i64 a0_2, .int .i64 a0_3] 75 (0, 0)) (bvK BK130.out)) : gb131 ≠ gb130)); clear BK130; clear HB; have BK130 := n0_; have HB := n1_; have BK131 := n2_; have GW131 := n3_; have GE131 := n4_; have NB130_131 := n5_; have NB131_130 := n6_; clear n0_ n1_ n2_ n3_ n4_ n5_ n6_; clear hb hbox hg) | ((with_reducible refine gate_dst (N := 3) rfl ?_); refine box_event ?hg (N := 3) ?hd (cs := #[.int .i64 0, .int .i64 0, .int .i64 0, .int .i64 0]) (t := 73) ?hr ?_; (case hd => rfl); (case hg => rfl); (case hr => first | (go_simp; done) | (go_simp; rfl)); intro gb132 hg w4 hbox hb; have n0_ := Aside0.mk (blk_below (g := gb130) (o := .cells #[.int .i64 a0_0, .int .i64 a0_1, .int .i64 a0_2, .int .i64 a0_3] 75 (0, 0)) (bvK BK130.out) hb); have n1_ := Aside0.mk (blk_below (g := gb131) (o := .cells #[.int .i64 0, .int .i64 0, .int .i64 0, .int .i64 0] 73 (0, 0)) (bvK BK131.out) hb); have n2_ := Aside0.mk (below_step (by repeat (first | (with_reducible first | exact HB.out | apply bwA | apply bwN | apply bwD | refine below_set ?_ GE130.out | refine below_set ?_ GE131.out) | exact HB.out)) hb); have n3_ := Aside0.mk (hbox); have n4_ := Aside0.mk ((by rw [hg]; exact (below_size (by repeat (first | (with_reducible first | exact HB.out | apply bwA | apply bwN | apply bwD | refine below_set ?_ GE130.out | refine below_set ?_ GE131.out) | exact HB.out))) : w.heap.size ≤ gb132)); have n5_ := Aside0.mk ((by rw [hg]; exact (below_size (by repeat (first | (with_reducible first | exact HB.out | apply bwA | apply bwN | apply bwD | refine below_set ?_ GE130.out | refine below_set ?_ GE131.out) | exact HB.out))) : w.heap.size ≤ gb132)); have n6_ := Aside0.mk ((by rw [hg]; exact Nat.ne_of_lt (blk_lt (g := gb130) (o := .cells #[.int .i64 a0_0, .int .i64 a0_1, .int .i64 a0_2, .int .i64 a0_3] 75 (0, 0)) (bvK BK130.out)) : gb130 ≠ gb132)); have n7_ := Aside0.mk ((by rw [hg]; exact Nat.ne_of_gt (blk_lt (g := gb130) (o := .cells #[.int .i64 a0_0, .int .i64 a0_1, .int .i64 a0_2, .int .i64 a0_3] 75 (0, 0)) (bvK BK130.out)) : gb132 ≠ gb130)); have n8_ := Aside0.mk ((by rw [hg]; exact Nat.ne_of_lt (blk_lt (g := gb131) (o := .cells #[.int .i64 0, .int .i64 0, .int .i64 0, .int .i64 0] 73 (0, 0)) (bvK BK131.out)) : gb131 ≠ gb132)); have n9_ := Aside0.mk ((by rw [hg]; exact Nat.ne_of_gt (blk_lt (g := gb131) (o := .cells #[.int .i64 0, .int .i64 0, .int .i64 0, .int .i64 0] 73 (0, 0)) (bvK BK131.out)) : gb132 ≠ gb131)); clear BK130; clear BK131; clear HB; have BK130 := n0_; have BK131 := n1_; have HB := n2_; have BK132 := n3_; have GW132 := n4_; have GE132 := n5_; have NB130_132 := n6_; have NB132_130 := n7_; have NB131_132 := n8_; have NB132_131 := n9_; clear n0_ n1_ n2_ n3_ n4_ n5_ n6_ n7_ n8_ n9_; clear hb hbox hg; have hnb5 := NB130_131.out; have hnc5 := NB131_130.out; have hnb6 := NB130_132.out; have hnc6 := NB132_130.out; have hcz7_0 : w4.cell? ⟨gb130, 0, none⟩ = some (.int .i64 a0_0) := (blk_cell BK130.out 0).trans rfl; have hcz7_1 : w4.cell? ⟨gb130, 1, none⟩ = some (.int .i64 a0_1) := (blk_cell BK130.out 1).trans rfl; have hcz7_2 : w4.cell? ⟨gb130, 2, none⟩ = some (.int .i64 a0_2) := (blk_cell BK130.out 2).trans rfl; have hcz7_3 : w4.cell? ⟨gb130, 3, none⟩ = some (.int .i64 a0_3) := (blk_cell BK130.out 3).trans rfl; have hfz7_0 := blk_frozen BK130.out 0; have hfz7_1 := blk_frozen BK130.out 1; have hfz7_2 := blk_frozen BK130.out 2; have hfz7_3 := blk_frozen BK130.out 3; have hnb8 := NB132_131.out; have hnc8 := NB131_132.out; have hcz9_0 : w4.cell? ⟨gb132, 0, none⟩ = some (.int .i64 0) := (blk_cell BK132.out 0).trans rfl; have hcz9_1 : w4.cell? ⟨gb132, 1, none⟩ = some (.int .i64 0) := (blk_cell BK132.out 1).trans rfl; have hcz9_2 : w4.cell? ⟨gb132, 2, none⟩ = some (.int .i64 0) := (blk_cell BK132.out 2).trans rfl; have hcz9_3 : w4.cell? ⟨gb132, 3, none⟩ = some (.int .i64 0) := (blk_cell BK132.out 3).trans rfl; have hfz9_0 := blk_frozen BK132.out 0; have hfz9_1 := blk_frozen BK132.out 1; have hfz9_2 := blk_frozen BK132.out 2; have hfz9_3 := blk_frozen BK132.out 3; have hcz10_0 : w4.cell? ⟨gb131, 0, none⟩ = some (.int .i64 0) := (blk_cell BK131.out 0).trans rfl; have hcz10_1 : w4.cell? ⟨gb131, 1, none⟩ = some (.int .i64 0) := (blk_cell BK131.out 1).trans rfl; have hcz10_2 : w4.cell? ⟨gb131, 2, none⟩ = some (.int .i64 0) := (blk_cell BK131.out 2).trans rfl; have hcz10_3 : w4.cell? ⟨gb131, 3, none⟩ = some (.int .i64 0) := (blk_cell BK131.out 3).trans rfl; have hfz10_0 := blk_frozen BK131.out 0; have hfz10_1 := blk_frozen BK131.out 1; have hfz10_2 := blk_frozen BK131.out 2; have hfz10_3 := blk_frozen BK131.out 3))
 refine bodyPost_ret (results_cell_row rfl _ _ gb131 73 #[.int .i64 a0_0, .int .i64 a0_1, .int .i64 a0_2, .int .i64 a0_3] (0, 0) _ rfl (by (with_reducible repeat (first | refine blk_drewN ?_ _ | refine blk_drew ?_ | refine blk_alloc ?_ _)); refine blk_put (cs := #[.int .i64 a0_0, .int .i64 a0_1, .int .i64 a0_2, .int .i64 0]) ?_ 3 _ rfl; (with_reducible repeat (first | refine blk_drewN ?_ _ | refine blk_drew ?_ | refine blk_alloc ?_ _)); refine blk_put (cs := #[.int .i64 a0_0, .int .i64 a0_1, .int .i64 0, .int .i64 0]) ?_ 2 _ rfl; (with_reducible repeat (first | refine blk_drewN ?_ _ | refine blk_drew ?_ | refine blk_alloc ?_ _)); refine blk_put (cs := #[.int .i64 a0_0, .int .i64 0, .int .i64 0, .int .i64 0]) ?_ 1 _ rfl; (with_reducible repeat (first | refine blk_drewN ?_ _ | refine blk_drew ?_ | refine blk_alloc ?_ _)); refine blk_put (cs := #[.int .i64 0, .int .i64 0, .int .i64 0, .int .i64 0]) ?_ 0 _ rfl; (with_reducible repeat (first | refine blk_drewN ?_ _ | refine blk_drew ?_ | refine blk_alloc ?_ _)); refine blk_far ?_ NB131_132.out _; (with_reducible repeat (first | refine blk_drewN ?_ _ | refine blk_drew ?_ | refine blk_alloc ?_ _)); refine blk_far ?_ NB131_132.out _; (with_reducible repeat (first | refine blk_drewN ?_ _ | refine blk_drew ?_ | refine blk_alloc ?_ _)); refine blk_far ?_ NB131_132.out _; (with_reducible repeat (first | refine blk_drewN ?_ _ | refine blk_drew ?_ | refine blk_alloc ?_ _)); refine blk_far ?_ NB131_132.out _; (with_reducible repeat (first | refine blk_drewN ?_ _ | refine blk_drew ?_ | refine blk_alloc ?_ _)); exact BK131.out) Try.underlying73 rfl (by kernel_rfl)) rfl ?_
 exact ⟨ers, by repeat (first | (with_reducible first | exact HB.out | apply bwA | apply bwN | apply bwD | refine below_set ?_ GE130.out | refine below_set ?_ GE131.out | refine below_set ?_ GE132.out) | exact HB.out)⟩

/-! ### laws_toTermS: function 15 -/
def laws_toTermS.l0 : Nat → List (S75) → List (S73) → Int → Option ((List (S73)))
 | 0, _, _, _ => none
 | k + 1, x0, x3, x4 => if x4 < (x0.length : Int) then (if 0 ≤ x4 then ((laws_toTerm.f ((rd_T75 x0 x4).f0) ((rd_T75 x0 x4).f1) ((rd_T75 x0 x4).f2) ((rd_T75 x0 x4).f3)).bind fun bt137 => (if x4 < (x3.length : Int) then (laws_toTermS.l0 k x0 (x3.set (x4 : Int).toNat (⟨bt137.1, bt137.2.1, bt137.2.2.1, bt137.2.2.2⟩ : S73)) (wrap64 (x4 + 1))) else (none))) else (none)) else (some x3)
def laws_toTermS.f (k : Nat) (l0 : List (S75)) : Option ((List (S73))) := if 0 ≤ (l0.length : Int) then (if ((l0.length : Int) : Int).toNat ≤ 8796093022208 then (laws_toTermS.l0 k l0 (List.replicate ((l0.length : Int) : Int).toNat z73) 0) else (none)) else (none)
theorem laws_toTermS.mono_l : ∀ k, (∀ y0 y1 y2, LeO (laws_toTermS.l0 k y0 y1 y2) (laws_toTermS.l0 (k + 1) y0 y1 y2))
 | 0 => fun _ _ _ r h => by simp [laws_toTermS.l0] at h
 | k + 1 => by
  have ih0 := laws_toTermS.mono_l k
  ·intro y0 y1 y2
   unfold laws_toTermS.l0
   repeat' first
   | (with_reducible exact ih0 _ _ _)
   | (with_reducible exact LeO.refl _)
   | (with_reducible exact LeO.none _)
   | (with_reducible refine LeO.ite ?_ ?_)
   | (with_reducible refine LeO.bind ?_ (fun _ => ?_))
   | exact ih0 _ _ _
   | exact LeO.none _
   | refine LeO.ite ?_ ?_
   | refine LeO.bind ?_ (fun _ => ?_)
theorem laws_toTermS.mono : ∀ a0 k, LeO (laws_toTermS.f k a0) (laws_toTermS.f (k + 1) a0) := by
 intro a0 k
 have ih0 := laws_toTermS.mono_l k
 unfold laws_toTermS.f
 repeat' first
   | (with_reducible exact ih0 _ _ _)
   | (with_reducible exact LeO.refl _)
   | (with_reducible exact LeO.none _)
   | (with_reducible refine LeO.ite ?_ ?_)
   | (with_reducible refine LeO.bind ?_ (fun _ => ?_))
   | exact ih0 _ _ _
   | exact LeO.none _
   | refine LeO.ite ?_ ?_
   | refine LeO.bind ?_ (fun _ => ?_)
set_option maxHeartbeats 8000000 in
set_option maxRecDepth 100000 in
theorem laws_toTermS.calls (k : Nat) (A0 : Option Addr) (c0 : Nat) (l0 : List (S75)) (r : List (S73)) (w : World) (hr0 : Kd.C k75 w A0 l0.length l0) (hc0 : l0.length ≤ c0) (h : laws_toTermS.f k l0 = some r) :
  Calls Try.prog 15 #[.slice A0 l0.length c0] w fun e w' => ∃ v0_ : Value, e = .returned (v0_) ∧ Kd.R k73 73 w' w.heap.size (fun _ => True) v0_ r ∧ Below w.heap.size w w' := by
 have hu75 := Try.underlying75
 have hu73 := Try.underlying73
 have HR0 := Aside0.mk hr0
 have HC0 := Aside0.mk hc0
 clear hr0 hc0
 have HB := Aside0.mk (Below.refl w.heap.size w)
 have H : (if 0 ≤ (l0.length : Int) then (if ((l0.length : Int) : Int).toNat ≤ 8796093022208 then (laws_toTermS.l0 k l0 (List.replicate ((l0.length : Int) : Int).toNat z73) 0) else (none)) else (none)) = some r := h
 clear h
 by_cases c2 : 0 ≤ (l0.length : Int)
 ·rw [if_pos c2] at H
  have c2b0 := eq_true c2
  have c2b1 : decide (0 ≤ (l0.length : Int)) = true := decide_eq_true c2
  clear c2
  by_cases c3 : ((l0.length : Int) : Int).toNat ≤ 8796093022208
  ·rw [if_pos c3] at H
   have c3b0 := eq_true c3
   have c3b1 : decide (((l0.length : Int) : Int).toNat ≤ 8796093022208) = true := decide_eq_true c3
   clear c3
   obtain ⟨y133, hy133⟩ : ∃ y_ : List (S73), y_ = (List.replicate ((l0.length : Int) : Int).toNat z73) := ⟨_, rfl⟩
   replace H : (laws_toTermS.l0 k l0 y133 0) = some r := by first | (rw [hy133]; with_reducible exact H) | (have H2_ := (Option.bind_some _ _).symm.trans H; rw [hy133]; with_reducible exact H2_) | (have H2_ := (Option.bind_some _ _).symm.trans H; with_reducible exact H2_) | with_reducible exact H | (rw [hy133]; exact H) | exact H
   have Ny133 := Aside0.mk hy133
   clear hy133
   have H' := Aside0.mk H
   clear H
   go_enter Try.func15, Try.ntmps15
   go_wp2_with (first | ((with_reducible refine gate_dst (N := 7) rfl ?_); refine Kd.R_make k73 _ 73 rfl (N := 7) rfl 27 _ _ rfl (l0.length : Int) rfl rfl Try.underlying27 (.agg #[(.int .i64 0), (.int .i64 0), (.int .i64 0), (.int .i64 0)]) 32 info73 rfl (by decide) (by omega) z73 (ok := fun _ => True) (okp := fun _ => True) (k73_mkM _ _ _ z73 ) (fun _ hk => hk) trivial (oda) (Nat.le_trans (Nat.mul_le_mul_right _ (oda : (l0.length : Int).toNat ≤ 8796093022208)) (by omega)) (Below.refl _ _) (Nat.le_refl _) ?_; intro v134 w4 ho5 hb hg_ hnew_; clear hg_ hnew_; (first | rw [← Ny133.out] at ho5 | (simp only [Int.reduceToNat] at ho5; rw [← Ny133.out] at ho5)); have n0_ := Aside0.mk (Kd.R_lower ho5 (below_size (by repeat (first | (with_reducible first | exact HB.out | apply bwA | apply bwN | apply bwD) | exact HB.out)))); have n1_ := Aside0.mk (below_step (by repeat (first | (with_reducible first | exact HB.out | apply bwA | apply bwN | apply bwD) | exact HB.out)) hb); clear HB; have HO135 := n0_; have HB := n1_; clear n0_ n1_; clear hb ho5))
   go_loopg [4] k (fun kq v4 w' => ∃ (x3_1 : List (S73)) (x4_1 : Int), v4 = .int .i64 x4_1 ∧ Aside0 (laws_toTermS.l0 kq l0 x3_1 x4_1 = some r) ∧ Aside0 (kq ≤ k) ∧ Aside0 (Kd.R k73 73 w' w.heap.size (fun _ => True) v134 x3_1) ∧ Aside0 (Below w.heap.size w w'))
   case atStart => exact ⟨(y133), (0), rsd, H', ⟨Nat.le_refl _⟩, ⟨rvR HO135.out⟩, ⟨by repeat (first | (with_reducible first | exact HB.out | apply bwA | apply bwN | apply bwD) | exact HB.out)⟩⟩
   case round =>
    clear H'
    try clear c1
    try clear c2
    try clear c2b0
    try clear c2b1
    try clear p2
    try clear c3
    try clear c3b0
    try clear c3b1
    obtain ⟨x3_1, x4_1, rfl, HA, HK1, HO_3, HB⟩ := hrel
    cases gk with
    | zero => exact absurd HA.out (by simp [laws_toTermS.l0])
    | succ k1 =>
     have H := HA.out
     clear HA
     simp only [laws_toTermS.l0] at H
     by_cases c6 : x4_1 < (l0.length : Int)
     ·rw [if_pos c6] at H
      have c6b0 : decide (x4_1 < (l0.length : Int)) = true := decide_eq_true c6
      clear c6
      by_cases c7 : 0 ≤ x4_1
      ·rw [if_pos c7] at H
       have c7b0 : decide (0 ≤ x4_1) = true := decide_eq_true c7
       clear c7
       replace H := Option.bind_eq_some_iff.mp H
       obtain ⟨⟨t137, t138, t139, t140⟩, A80, H⟩ := H
       replace H : (if x4_1 < (x3_1.length : Int) then (laws_toTermS.l0 k1 l0 (x3_1.set (x4_1 : Int).toNat (⟨t137, t138, t139, t140⟩ : S73)) (wrap64 (x4_1 + 1))) else (none)) = some r := H
       have A8 := Aside0.mk A80
       clear A80
       by_cases c9 : x4_1 < (x3_1.length : Int)
       ·rw [if_pos c9] at H
        have c9b0 : decide (x4_1 < (x3_1.length : Int)) = true := decide_eq_true c9
        clear c9
        obtain ⟨y141, hy141⟩ : ∃ y_ : List (S73), y_ = (x3_1.set (x4_1 : Int).toNat (⟨t137, t138, t139, t140⟩ : S73)) := ⟨_, rfl⟩
        replace H : (laws_toTermS.l0 k1 l0 y141 (wrap64 (x4_1 + 1))) = some r := by first | (rw [hy141]; with_reducible exact H) | (have H2_ := (Option.bind_some _ _).symm.trans H; rw [hy141]; with_reducible exact H2_) | (have H2_ := (Option.bind_some _ _).symm.trans H; with_reducible exact H2_) | with_reducible exact H | (rw [hy141]; exact H) | exact H
        have Ny141 := Aside0.mk hy141
        clear hy141
        have H' := Aside0.mk H
        clear H
        have p136 : 0 ≤ (x4_1 : Int) := oda
        have q136 : x4_1 < (l0.length : Int) := oda
        obtain ⟨ad136, e136, hx136_0, hx136_1, hx136_2, hx136_3⟩ := at_T75 HR0.out x4_1 p136 q136
        cases e136
        try replace hx136_0 := bct HB.out hx136_0
        try replace hx136_1 := bct HB.out hx136_1
        try replace hx136_2 := bct HB.out hx136_2
        try replace hx136_3 := bct HB.out hx136_3
        replace p136 := eq_true p136
        replace q136 := eq_true q136
        go_wp2_with (first | ((with_reducible refine gate_callee (f := 55) rfl ?_); refine goesL_ (some 20) rfl rfl Try.func55 (by kernel_rfl) rfl #[.agg #[.int .i64 ((rd_T75 l0 x4_1).f0), .int .i64 ((rd_T75 l0 x4_1).f1), .int .i64 ((rd_T75 l0 x4_1).f2), .int .i64 ((rd_T75 l0 x4_1).f3)]] rfl lmB ?_; (with_reducible refine (laws_toTerm.calls ((rd_T75 l0 x4_1).f0) ((rd_T75 l0 x4_1).f1) ((rd_T75 l0 x4_1).f2) ((rd_T75 l0 x4_1).f3) t137 t138 t139 t140 _ A8.out).mono ?_); rintro e w11 ⟨rfl, hb⟩; refine ⟨_, rfl, ?_⟩; have n0_ := Aside0.mk (Kd.R_below (rvR HO_3.out) hb); have n1_ := Aside0.mk (below_step (by repeat (first | (with_reducible first | exact HB.out | apply bwA | apply bwN | apply bwD) | exact HB.out)) hb); clear HO_3; clear HB; have HO_3 := n0_; have HB := n1_; clear n0_ n1_; (try clear hb); (try clear hb2); (try clear hk); (try clear hi); have p10 : 0 ≤ (x4_1 : Int) := oda; have q10 : (x4_1 : Int) < ((x3_1.length : Int) : Int) := oda; obtain ⟨go10, co10, eo10, gb10, gl10, cl10, HG10⟩ := Kd.R_form HO_3.out (by omega); (first | cases eo10 | (injection eo10 with ea_ en_ ec_; (first | subst ea_ | (injection ea_ with ea_; subst ea_)); subst ec_; clear en_)); have GB10 := Aside0.mk gb10; have GG10 := Aside0.mk HG10; clear gb10 gl10 HG10; obtain ⟨ce10, hcl10, hM10, hcc10, hfr10⟩ := Kd.R_elem HO_3.out z73 (x4_1 : Int) p10 q10; obtain rfl := k73_openM hM10; have hx10_0 : w11.cell? ⟨go10, (x4_1 : Int).toNat * 4, none⟩ = some (.int .i64 ((rd_T73 x3_1 x4_1).f0)) := hcc10 0 _ rfl; have hx10_1 : w11.cell? ⟨go10, (x4_1 : Int).toNat * 4 + 1, none⟩ = some (.int .i64 ((rd_T73 x3_1 x4_1).f1)) := hcc10 1 _ rfl; have hx10_2 : w11.cell? ⟨go10, (x4_1 : Int).toNat * 4 + 2, none⟩ = some (.int .i64 ((rd_T73 x3_1 x4_1).f2)) := hcc10 2 _ rfl; have hx10_3 : w11.cell? ⟨go10, (x4_1 : Int).toNat * 4 + 3, none⟩ = some (.int .i64 ((rd_T73 x3_1 x4_1).f3)) := hcc10 3 _ rfl; have hf10_0 : w11.frozen? ⟨go10, (x4_1 : Int).toNat * 4, none⟩ = false := hfr10 0; have hf10_1 : w11.frozen? ⟨go10, (x4_1 : Int).toNat * 4 + 1, none⟩ = false := hfr10 1; have hf10_2 : w11.frozen? ⟨go10, (x4_1 : Int).toNat * 4 + 2, none⟩ = false := hfr10 2; have hf10_3 : w11.frozen? ⟨go10, (x4_1 : Int).toNat * 4 + 3, none⟩ = false := hfr10 3; clear hcl10 hcc10 hfr10; (try clear hM10); replace p10 := eq_true p10; replace q10 := eq_true q10; have HX12 := Aside0.mk (show Kd.R k73 73 w11 w.heap.size (fun _ => True) (.slice (some ⟨go10, 0, none⟩) x3_1.length co10) x3_1 from (rvR HO_3.out)); obtain ⟨ce12, hcl12, hM12, hcc12, hfr12⟩ := Kd.R_elem HX12.out z73 (x4_1 : Int) (oda) (by have h_ : (x4_1 : Int) < ((x3_1.length : Int) : Int) := oda; first | exact h_ | (have e_ := (Kd.R_reads' HO_3.out).1; omega) | simpa using h_); obtain rfl := k73_openM hM12; have HP12 := Kd.R_seg HX12.out (x4_1 : Int) (oda) (by have h_ : (x4_1 : Int) < ((x3_1.length : Int) : Int) := oda; first | exact h_ | (have e_ := (Kd.R_reads' HO_3.out).1; omega) | simpa using h_) (seg := [.int .i64 t137, .int .i64 t138, .int .i64 t139, .int .i64 t140]) (j := 0) hcl12 hcc12 (show 4 ≤ 4 from by decide) (x' := (⟨t137, t138, t139, t140⟩ : S73)) (k73_mkM _ _ _ (⟨t137, t138, t139, t140⟩ : S73) ) (fun _ hk => hk); have hx12_0 := hcc12 0 _ rfl; (try simp only [show (k73).sz = 4 from rfl, Nat.mul_one, Nat.add_zero] at hx12_0); have hf12_0 := hfr12 0; (try simp only [show (k73).sz = 4 from rfl, Nat.mul_one, Nat.add_zero] at hf12_0); have hx12_1 := hcc12 1 _ rfl; (try simp only [show (k73).sz = 4 from rfl, Nat.mul_one, Nat.add_zero] at hx12_1); have hf12_1 := hfr12 1; (try simp only [show (k73).sz = 4 from rfl, Nat.mul_one, Nat.add_zero] at hf12_1); have hx12_2 := hcc12 2 _ rfl; (try simp only [show (k73).sz = 4 from rfl, Nat.mul_one, Nat.add_zero] at hx12_2); have hf12_2 := hfr12 2; (try simp only [show (k73).sz = 4 from rfl, Nat.mul_one, Nat.add_zero] at hf12_2); have hx12_3 := hcc12 3 _ rfl; (try simp only [show (k73).sz = 4 from rfl, Nat.mul_one, Nat.add_zero] at hx12_3); have hf12_3 := hfr12 3; (try simp only [show (k73).sz = 4 from rfl, Nat.mul_one, Nat.add_zero] at hf12_3); clear hcl12 hcc12 hfr12; (try clear hM12)) | ((with_reducible refine gate_store (t := 73) (p := 21) rfl ?_); refine store_event (t := 73) (p := 21) (v := ?vo_w13) (w1 := ((((w11.setCell ⟨go10, (x4_1 : Int).toNat * 4, none⟩ (.int .i64 t137)).setCell ⟨go10, (x4_1 : Int).toNat * 4 + 1, none⟩ (.int .i64 t138)).setCell ⟨go10, (x4_1 : Int).toNat * 4 + 2, none⟩ (.int .i64 t139)).setCell ⟨go10, (x4_1 : Int).toNat * 4 + 3, none⟩ (.int .i64 t140))) ?hg ?ho ?hn ?hr ?_; (case ho => rfl); (case hg => rfl); (case hn => rfl); (case hr => first | (go_simp; done) | (go_simp; rfl)); intro w13 hw; have hg : w11.grownBy w13 (some go10) := (by rw [hw]; exact HP12.2); have hp_ : Kd.R k73 73 w13 w.heap.size (fun _ => True) (.slice (some ⟨go10, 0, none⟩) x3_1.length co10) y141 := (by rw [hw, Ny141.out]; exact HP12.1); clear HP12; have n0_ := Aside0.mk (hp_); have n1_ := Aside0.mk ((by rw [hw]; exact below_set (below_set (below_set (below_set (HB.out) GB10.out) GB10.out) GB10.out) GB10.out : Below w.heap.size w w13)); clear HO_3; clear HB; have HO_3 := n0_; have HB := n1_; clear n0_ n1_; clear hg hw hp_))
        go_roundg k1
        case measure => have := HK1.out; omega
        case rel => exact ⟨(y141), (wrap64 (x4_1 + 1)), rsd, H', ⟨by have := HK1.out; omega⟩, ⟨rvR HO_3.out⟩, ⟨by repeat (first | (with_reducible first | exact HB.out | apply bwA | apply bwN | apply bwD) | exact HB.out)⟩⟩
       ·rw [if_neg c9] at H
        exact absurd H (by simp)
      ·rw [if_neg c7] at H
       exact absurd H (by simp)
     ·rw [if_neg c6] at H
      have c6b0 : decide (x4_1 < (l0.length : Int)) = false := decide_eq_false c6
      clear c6
      obtain rfl := Option.some.inj H
      go_wp2
      go_ret
      exact ⟨_, ers, by (with_reducible repeat (first | apply Kd.R_alloc | apply Kd.R_drewN | apply Kd.R_drew)); exact HO_3.out, by repeat (first | (with_reducible first | exact HB.out | apply bwA | apply bwN | apply bwD) | exact HB.out)⟩
  ·rw [if_neg c3] at H
   exact absurd H (by simp)
 ·rw [if_neg c2] at H
  exact absurd H (by simp)

/-! ### laws_toTermSS: function 139 -/
def laws_toTermSS.l0 : Nat → List (List (S75)) → List (List (S73)) → Int → Option ((List (List (S73))))
 | 0, _, _, _ => none
 | k + 1, x0, x3, x4 => if x4 < (x0.length : Int) then (if 0 ≤ x4 then ((laws_toTermS.f k (rd_L3 x0 x4)).bind fun t146 => (if x4 < (x3.length : Int) then (laws_toTermSS.l0 k x0 (x3.set (x4 : Int).toNat t146) (wrap64 (x4 + 1))) else (none))) else (none)) else (some x3)
def laws_toTermSS.f (k : Nat) (l0 : List (List (S75))) : Option ((List (List (S73)))) := if 0 ≤ (l0.length : Int) then (if ((l0.length : Int) : Int).toNat ≤ 11728124029610 then (laws_toTermSS.l0 k l0 (List.replicate ((l0.length : Int) : Int).toNat []) 0) else (none)) else (none)
theorem laws_toTermSS.mono_l : ∀ k, (∀ y0 y1 y2, LeO (laws_toTermSS.l0 k y0 y1 y2) (laws_toTermSS.l0 (k + 1) y0 y1 y2))
 | 0 => fun _ _ _ r h => by simp [laws_toTermSS.l0] at h
 | k + 1 => by
  have ih0 := laws_toTermSS.mono_l k
  ·intro y0 y1 y2
   unfold laws_toTermSS.l0
   repeat' first
   | (with_reducible exact ih0 _ _ _)
   | (with_reducible exact laws_toTermS.mono _ _)
   | (with_reducible exact LeO.refl _)
   | (with_reducible exact LeO.none _)
   | (with_reducible refine LeO.ite ?_ ?_)
   | (with_reducible refine LeO.bind ?_ (fun _ => ?_))
   | exact ih0 _ _ _
   | exact laws_toTermS.mono _ _
   | exact LeO.none _
   | refine LeO.ite ?_ ?_
   | refine LeO.bind ?_ (fun _ => ?_)
theorem laws_toTermSS.mono : ∀ a0 k, LeO (laws_toTermSS.f k a0) (laws_toTermSS.f (k + 1) a0) := by
 intro a0 k
 have ih0 := laws_toTermSS.mono_l k
 unfold laws_toTermSS.f
 repeat' first
   | (with_reducible exact ih0 _ _ _)
   | (with_reducible exact laws_toTermS.mono _ _)
   | (with_reducible exact LeO.refl _)
   | (with_reducible exact LeO.none _)
   | (with_reducible refine LeO.ite ?_ ?_)
   | (with_reducible refine LeO.bind ?_ (fun _ => ?_))
   | exact ih0 _ _ _
   | exact laws_toTermS.mono _ _
   | exact LeO.none _
   | refine LeO.ite ?_ ?_
   | refine LeO.bind ?_ (fun _ => ?_)
set_option maxHeartbeats 8000000 in
set_option maxRecDepth 100000 in
theorem laws_toTermSS.calls (k : Nat) (A0 : Option Addr) (c0 : Nat) (l0 : List (List (S75))) (r : List (List (S73))) (w : World) (hr0 : Kd.C (Kd.slice 75 k75) w A0 l0.length l0) (hc0 : l0.length ≤ c0) (h : laws_toTermSS.f k l0 = some r) :
  Calls Try.prog 139 #[.slice A0 l0.length c0] w fun e w' => ∃ v0_ : Value, e = .returned (v0_) ∧ Kd.S (Kd.slice 73 k73) 27 w' w.heap.size (fun _ => True) v0_ r ∧ Below w.heap.size w w' := by
 have HR0 := Aside0.mk hr0
 have HC0 := Aside0.mk hc0
 clear hr0 hc0
 have HB := Aside0.mk (Below.refl w.heap.size w)
 have H : (if 0 ≤ (l0.length : Int) then (if ((l0.length : Int) : Int).toNat ≤ 11728124029610 then (laws_toTermSS.l0 k l0 (List.replicate ((l0.length : Int) : Int).toNat []) 0) else (none)) else (none)) = some r := h
 clear h
 by_cases c2 : 0 ≤ (l0.length : Int)
 ·rw [if_pos c2] at H
  have c2b0 := eq_true c2
  have c2b1 : decide (0 ≤ (l0.length : Int)) = true := decide_eq_true c2
  clear c2
  by_cases c3 : ((l0.length : Int) : Int).toNat ≤ 11728124029610
  ·rw [if_pos c3] at H
   have c3b0 := eq_true c3
   have c3b1 : decide (((l0.length : Int) : Int).toNat ≤ 11728124029610) = true := decide_eq_true c3
   clear c3
   obtain ⟨y142, hy142⟩ : ∃ y_ : List (List (S73)), y_ = (List.replicate ((l0.length : Int) : Int).toNat []) := ⟨_, rfl⟩
   replace H : (laws_toTermSS.l0 k l0 y142 0) = some r := by first | (rw [hy142]; with_reducible exact H) | (have H2_ := (Option.bind_some _ _).symm.trans H; rw [hy142]; with_reducible exact H2_) | (have H2_ := (Option.bind_some _ _).symm.trans H; with_reducible exact H2_) | with_reducible exact H | (rw [hy142]; exact H) | exact H
   have Ny142 := Aside0.mk hy142
   clear hy142
   have H' := Aside0.mk H
   clear H
   go_enter Try.func139, Try.ntmps139
   go_wp2_with (first | ((with_reducible refine gate_dst (N := 7) rfl ?_); refine Kd.S_make (Kd.slice 73 k73) _ 27 rfl (N := 7) rfl 107 _ _ rfl (l0.length : Int) rfl rfl Try.underlying107 (.slice none 0 0) 24 info27 rfl (by decide) (by omega) [] (ok := fun _ => True) (okp := fun _ => True) ⟨_, rfl, Kd.R_nil _ _ _ _ _⟩ (fun _ hk => hk) trivial (oda) (Nat.le_trans (Nat.mul_le_mul_right _ (oda : (l0.length : Int).toNat ≤ 11728124029610)) (by omega)) (Below.refl _ _) (Nat.le_refl _) ?_; intro v143 w4 ho5 hb hg_ hnew_; clear hg_ hnew_; (first | rw [← Ny142.out] at ho5 | (simp only [Int.reduceToNat] at ho5; rw [← Ny142.out] at ho5)); have n0_ := Aside0.mk (Kd.S_lower ho5 (below_size (by repeat (first | (with_reducible first | exact HB.out | apply bwA | apply bwN | apply bwD) | exact HB.out)))); have n1_ := Aside0.mk (below_step (by repeat (first | (with_reducible first | exact HB.out | apply bwA | apply bwN | apply bwD) | exact HB.out)) hb); clear HB; have HO144 := n0_; have HB := n1_; clear n0_ n1_; clear hb ho5))
   go_loopg [4] k (fun kq v4 w' => ∃ (x3_1 : List (List (S73))) (x4_1 : Int), v4 = .int .i64 x4_1 ∧ Aside0 (laws_toTermSS.l0 kq l0 x3_1 x4_1 = some r) ∧ Aside0 (kq ≤ k) ∧ Aside0 (Kd.S (Kd.slice 73 k73) 27 w' w.heap.size (fun _ => True) v143 x3_1) ∧ Aside0 (Below w.heap.size w w'))
   case atStart => exact ⟨(y142), (0), rsd, H', ⟨Nat.le_refl _⟩, ⟨by (with_reducible repeat (first | apply Kd.S_alloc | apply Kd.S_drewN | apply Kd.S_drew)); exact HO144.out⟩, ⟨by repeat (first | (with_reducible first | exact HB.out | apply bwA | apply bwN | apply bwD) | exact HB.out)⟩⟩
   case round =>
    clear H'
    try clear c1
    try clear c2
    try clear c2b0
    try clear c2b1
    try clear p2
    try clear c3
    try clear c3b0
    try clear c3b1
    obtain ⟨x3_1, x4_1, rfl, HA, HK1, HO_3, HB⟩ := hrel
    cases gk with
    | zero => exact absurd HA.out (by simp [laws_toTermSS.l0])
    | succ k1 =>
     have H := HA.out
     clear HA
     simp only [laws_toTermSS.l0] at H
     by_cases c6 : x4_1 < (l0.length : Int)
     ·rw [if_pos c6] at H
      have c6b0 : decide (x4_1 < (l0.length : Int)) = true := decide_eq_true c6
      clear c6
      by_cases c7 : 0 ≤ x4_1
      ·rw [if_pos c7] at H
       have c7b0 : decide (0 ≤ x4_1) = true := decide_eq_true c7
       clear c7
       replace H := Option.bind_eq_some_iff.mp H
       obtain ⟨t146, A80, H⟩ := H
       replace H : (if x4_1 < (x3_1.length : Int) then (laws_toTermSS.l0 k1 l0 (x3_1.set (x4_1 : Int).toNat t146) (wrap64 (x4_1 + 1))) else (none)) = some r := H
       have A8 := Aside0.mk A80
       clear A80
       by_cases c9 : x4_1 < (x3_1.length : Int)
       ·rw [if_pos c9] at H
        have c9b0 : decide (x4_1 < (x3_1.length : Int)) = true := decide_eq_true c9
        clear c9
        obtain ⟨y149, hy149⟩ : ∃ y_ : List (List (S73)), y_ = (x3_1.set (x4_1 : Int).toNat t146) := ⟨_, rfl⟩
        replace H : (laws_toTermSS.l0 k1 l0 y149 (wrap64 (x4_1 + 1))) = some r := by first | (rw [hy149]; with_reducible exact H) | (have H2_ := (Option.bind_some _ _).symm.trans H; rw [hy149]; with_reducible exact H2_) | (have H2_ := (Option.bind_some _ _).symm.trans H; with_reducible exact H2_) | with_reducible exact H | (rw [hy149]; exact H) | exact H
        have Ny149 := Aside0.mk hy149
        clear hy149
        have H' := Aside0.mk H
        clear H
        have p145 : 0 ≤ (x4_1 : Int) := oda
        have q145 : x4_1 < (l0.length : Int) := oda
        obtain ⟨ad145, A145_0, c145_0, e145, hx145_0, hl145_0, hi145_0⟩ := at_L3 HR0.out x4_1 p145 q145
        cases e145
        try replace hx145_0 := bct HB.out hx145_0
        have HR145_0 := Aside0.mk hi145_0
        have HC145_0 := Aside0.mk hl145_0
        clear hi145_0 hl145_0
        replace p145 := eq_true p145
        replace q145 := eq_true q145
        go_wp2_with (first | ((with_reducible refine gate_callee (f := 15) rfl ?_); refine goesL_ (some 20) rfl rfl Try.func15 (by kernel_rfl) rfl #[.slice A145_0 (rd_L3 l0 x4_1).length c145_0] rfl lmB ?_; (with_reducible refine (laws_toTermS.calls k1 _ _ (rd_L3 l0 x4_1) t146 _ ?side1 ?side2 A8.out).mono ?_); (case side1 => repeat (first | exact (Kd.C_below HR145_0.out HB.out) | (with_reducible refine Kd.C_alloc ?_ _) | (with_reducible refine Kd.C_drewN ?_ _) | (with_reducible refine Kd.C_drew ?_))); (case side2 => exact HC145_0.out); rintro e w11 ⟨v147, rfl, ho0, hb⟩; refine ⟨_, rfl, ?_⟩; have n0_ := Aside0.mk (Kd.S_elder' (by (with_reducible repeat (first | apply Kd.S_alloc | apply Kd.S_drewN | apply Kd.S_drew)); exact HO_3.out) (Kd.R_base ho0) hb); have n1_ := Aside0.mk (Kd.R_lower ho0 (below_size (by repeat (first | (with_reducible first | exact HB.out | apply bwA | apply bwN | apply bwD) | exact HB.out)))); have n2_ := Aside0.mk (below_step (by repeat (first | (with_reducible first | exact HB.out | apply bwA | apply bwN | apply bwD) | exact HB.out)) hb); clear HO_3; clear HB; have HO_3 := n0_; have HO148 := n1_; have HB := n2_; clear n0_ n1_ n2_; (try clear hb); (try clear hb2); (try clear hk); (try clear hi); (try clear ho0); have p10 : 0 ≤ (x4_1 : Int) := oda; have q10 : (x4_1 : Int) < ((x3_1.length : Int) : Int) := oda; obtain ⟨go10, co10, eo10, gb10, gl10, cl10, HG10⟩ := Kd.S_form HO_3.out (by omega); (first | cases eo10 | (injection eo10 with ea_ en_ ec_; (first | subst ea_ | (injection ea_ with ea_; subst ea_)); subst ec_; clear en_)); have GB10 := Aside0.mk gb10; have GG10 := Aside0.mk HG10; clear gb10 gl10 HG10; obtain ⟨_, ce10, hcl10, hM10, hcc10, hfr10, _, _⟩ := Kd.S_elem HO_3.out [] (x4_1 : Int) p10 q10; obtain ⟨ve10_0, rfl, ge10_0⟩ := hM10; have hx10_0 := hcc10 0 _ rfl; have hf10_0 := hfr10 0; (try simp only [show ((Kd.slice 73 k73)).sz = 1 from rfl, Nat.mul_one, Nat.add_zero] at hx10_0); (try simp only [show ((Kd.slice 73 k73)).sz = 1 from rfl, Nat.mul_one, Nat.add_zero] at hf10_0); clear hcl10 hcc10 hfr10; (try clear hM10); replace p10 := eq_true p10; replace q10 := eq_true q10; have n_ := Aside0.mk (Kd.S_mono (ok' := (fun k_ => some k_ ≠ (v147 : Value).ownBlock)) HO_3.out (fun k_ hk => hk.2)); clear HO_3; have HO_3 := n_; clear n_; have HX12 := Aside0.mk (show Kd.S (Kd.slice 73 k73) 27 w11 w.heap.size (fun k_ => ((fun _ => True)) k_ ∧ ¬ ((fun k_ => some k_ = (v147 : Value).ownBlock)) k_) (.slice (some ⟨go10, 0, none⟩) x3_1.length co10) x3_1 from (by (with_reducible repeat (first | apply Kd.S_alloc | apply Kd.S_drewN | apply Kd.S_drew)); exact Kd.S_mono HO_3.out (fun k_ hk => ⟨trivial, fun e_ => hk e_⟩))); obtain ⟨oki12, ce12, hcl12, hM12, hcc12, hfr12, hoki12, hH12⟩ := Kd.S_elem HX12.out [] (x4_1 : Int) (oda) (by have h_ : (x4_1 : Int) < ((x3_1.length : Int) : Int) := oda; first | exact h_ | (have e_ := (Kd.S_reads' HO_3.out).1; omega) | simpa using h_); obtain ⟨ve12_0, rfl, ge12_0⟩ := hM12; have HP12 := Kd.S_seg hH12 (oda) (by have h_ : (x4_1 : Int) < ((x3_1.length : Int) : Int) := oda; first | exact h_ | (have e_ := (Kd.S_reads' HO_3.out).1; omega) | simpa using h_) (seg := [v147]) (j := 0) (show 1 ≤ 1 from by decide) (x' := t146) (Kd.M_row (Kd.R_mono (Kd.R_tight rfl (Kd.R_mono (ok' := fun k_ => ((fun _ => True)) k_ ∧ k_ ≠ go10) (Kd.R_apart' (HO148.out) (Kd.S_typed HO_3.out) (by decide)) (fun k_ hk => ⟨trivial, fun e_ => (hk.2) (by rw [e_]; rfl)⟩))) (fun _ h_ => Or.inr (h_)))) (fun _ hk => hk) (fun k_ hk_ => ((Kd.R_mono (ok' := fun k_ => ((fun _ => True)) k_ ∧ k_ ≠ go10) (Kd.R_apart' (HO148.out) (Kd.S_typed HO_3.out) (by decide)) (fun k_ hk => ⟨trivial, fun e_ => (hk.2) (by rw [e_]; rfl)⟩))).1 k_ hk_.symm); have hx12_0 := hcc12 0 _ rfl; (try simp only [show ((Kd.slice 73 k73)).sz = 1 from rfl, Nat.mul_one, Nat.add_zero] at hx12_0); have hf12_0 := hfr12 0; (try simp only [show ((Kd.slice 73 k73)).sz = 1 from rfl, Nat.mul_one, Nat.add_zero] at hf12_0); clear hcl12 hcc12 hfr12 hoki12 hH12; (try clear hM12); (try simp only [show ((Kd.slice 73 k73)).sz = 1 from rfl, Nat.mul_one, Nat.add_zero] at HP12)) | ((with_reducible refine gate_store (t := 27) (p := 21) rfl ?_); refine store_event (t := 27) (p := 21) (v := ?vo_w13) (w1 := (w11.setCell ⟨go10, (x4_1 : Int).toNat, none⟩ (v147))) ?hg ?ho ?hn ?hr ?_; (case ho => rfl); (case hg => rfl); (case hn => rfl); (case hr => first | (go_simp; done) | (go_simp; rfl) | (obtain ⟨_, _, e_⟩ := Kd.R_slice (HO148.out); (try subst e_); first | (go_simp; done) | (go_simp; rfl))); intro w13 hw; have hg : w11.grownBy w13 (some go10) := (by rw [hw]; exact HP12.2); have hp_ : Kd.S (Kd.slice 73 k73) 27 w13 w.heap.size (fun _ => True) (.slice (some ⟨go10, 0, none⟩) x3_1.length co10) y149 := (by rw [hw, Ny149.out]; exact HP12.1); clear HP12; have n0_ := Aside0.mk (hp_); have n1_ := Aside0.mk ((by rw [hw]; exact below_set (HB.out) GB10.out : Below w.heap.size w w13)); clear HO_3; clear HB; clear HO148; have HO_3 := n0_; have HB := n1_; clear n0_ n1_; clear hg hw hp_))
        go_roundg k1
        case measure => have := HK1.out; omega
        case rel => exact ⟨(y149), (wrap64 (x4_1 + 1)), rsd, H', ⟨by have := HK1.out; omega⟩, ⟨by (with_reducible repeat (first | apply Kd.S_alloc | apply Kd.S_drewN | apply Kd.S_drew)); exact HO_3.out⟩, ⟨by repeat (first | (with_reducible first | exact HB.out | apply bwA | apply bwN | apply bwD) | exact HB.out)⟩⟩
       ·rw [if_neg c9] at H
        exact absurd H (by simp)
      ·rw [if_neg c7] at H
       exact absurd H (by simp)
     ·rw [if_neg c6] at H
      have c6b0 : decide (x4_1 < (l0.length : Int)) = false := decide_eq_false c6
      clear c6
      obtain rfl := Option.some.inj H
      (try rw [hl145_0] at c6b0)
      go_wp2
      go_ret
      exact ⟨_, ers, by (with_reducible repeat (first | apply Kd.S_alloc | apply Kd.S_drewN | apply Kd.S_drew)); exact HO_3.out, by repeat (first | (with_reducible first | exact HB.out | apply bwA | apply bwN | apply bwD) | exact HB.out)⟩
  ·rw [if_neg c3] at H
   exact absurd H (by simp)
 ·rw [if_neg c2] at H
  exact absurd H (by simp)

/-! ### laws_toRule: function 120 -/
def laws_toRule.f (k : Nat) (l0_0 : List (S75)) (l0_1 : List Int) (l0_2 : List (List (S75))) : Option ((List (S73)) × List Int × (List (List (S73)))) := (laws_toTermS.f k l0_0).bind fun t153 => ((laws_toIntS.f k l0_1).bind fun t156 => ((laws_toTermSS.f k l0_2).bind fun t159 => (some (t153, t156, t159))))
theorem laws_toRule.mono : ∀ a0 a1 a2 k, LeO (laws_toRule.f k a0 a1 a2) (laws_toRule.f (k + 1) a0 a1 a2) := by
 intro a0 a1 a2 k
 unfold laws_toRule.f
 repeat' first
   | (with_reducible exact laws_toIntS.mono _ _)
   | (with_reducible exact laws_toTermS.mono _ _)
   | (with_reducible exact laws_toTermSS.mono _ _)
   | (with_reducible exact LeO.refl _)
   | (with_reducible exact LeO.none _)
   | (with_reducible refine LeO.ite ?_ ?_)
   | (with_reducible refine LeO.bind ?_ (fun _ => ?_))
   | exact laws_toIntS.mono _ _
   | exact laws_toTermS.mono _ _
   | exact laws_toTermSS.mono _ _
   | exact LeO.none _
   | refine LeO.ite ?_ ?_
   | refine LeO.bind ?_ (fun _ => ?_)
set_option maxHeartbeats 8000000 in
set_option maxRecDepth 100000 in
theorem laws_toRule.calls (k : Nat) (A0_0 : Option Addr) (c0_0 : Nat) (l0_0 : List (S75)) (A0_1 : Option Addr) (c0_1 : Nat) (l0_1 : List Int) (A0_2 : Option Addr) (c0_2 : Nat) (l0_2 : List (List (S75))) (r1 : List (S73)) (r2 : List Int) (r3 : List (List (S73))) (w : World) (hr0_0 : Kd.C k75 w A0_0 l0_0.length l0_0) (hc0_0 : l0_0.length ≤ c0_0) (hr0_1 : Kd.C (Kd.int .i64) w A0_1 l0_1.length l0_1) (hc0_1 : l0_1.length ≤ c0_1) (hr0_2 : Kd.C (Kd.slice 75 k75) w A0_2 l0_2.length l0_2) (hc0_2 : l0_2.length ≤ c0_2) (h : laws_toRule.f k l0_0 l0_1 l0_2 = some (r1, r2, r3)) :
  Calls Try.prog 120 #[.agg #[.slice A0_0 l0_0.length c0_0, .slice A0_1 l0_1.length c0_1, .slice A0_2 l0_2.length c0_2]] w fun e w' => ∃ v0_ v1_ v2_ : Value, e = .returned (.agg #[v0_, v1_, v2_]) ∧ Kd.R k73 73 w' w.heap.size (fun _ => True) v0_ r1 ∧ Kd.R (Kd.int .i64) 3 w' w.heap.size (fun _ => True) v1_ r2 ∧ Kd.S (Kd.slice 73 k73) 27 w' w.heap.size (fun k_ => some k_ ≠ (v0_ : Value).ownBlock) v2_ r3 ∧ Below w.heap.size w w' := by
 have hu131 := Try.underlying131
 have hu109 := Try.underlying109
 have HR0_0 := Aside0.mk hr0_0
 have HC0_0 := Aside0.mk hc0_0
 clear hr0_0 hc0_0
 have HR0_1 := Aside0.mk hr0_1
 have HC0_1 := Aside0.mk hc0_1
 clear hr0_1 hc0_1
 have HR0_2 := Aside0.mk hr0_2
 have HC0_2 := Aside0.mk hc0_2
 clear hr0_2 hc0_2
 have HB := Aside0.mk (Below.refl w.heap.size w)
 have H : ((laws_toTermS.f k l0_0).bind fun t153 => ((laws_toIntS.f k l0_1).bind fun t156 => ((laws_toTermSS.f k l0_2).bind fun t159 => (some (t153, t156, t159))))) = some (r1, r2, r3) := h
 clear h
 replace H := Option.bind_eq_some_iff.mp H
 obtain ⟨t153, A20, H⟩ := H
 replace H : ((laws_toIntS.f k l0_1).bind fun t156 => ((laws_toTermSS.f k l0_2).bind fun t159 => (some (t153, t156, t159)))) = some (r1, r2, r3) := H
 have A2 := Aside0.mk A20
 clear A20
 replace H := Option.bind_eq_some_iff.mp H
 obtain ⟨t156, A30, H⟩ := H
 replace H : ((laws_toTermSS.f k l0_2).bind fun t159 => (some (t153, t156, t159))) = some (r1, r2, r3) := H
 have A3 := Aside0.mk A30
 clear A30
 replace H := Option.bind_eq_some_iff.mp H
 obtain ⟨t159, A40, H⟩ := H
 replace H : (some (t153, t156, t159)) = some (r1, r2, r3) := H
 have A4 := Aside0.mk A40
 clear A40
 simp only [Option.some.injEq, Prod.mk.injEq] at H
 obtain ⟨rfl, rfl, rfl⟩ := H
 go_enter Try.func120, Try.ntmps120
 go_wp2_with (first | ((with_reducible refine gate_dst (N := 1) rfl ?_); refine box_event ?hg (N := 1) ?hd (cs := #[.slice A0_0 l0_0.length c0_0, .slice A0_1 l0_1.length c0_1, .slice A0_2 l0_2.length c0_2]) (t := 131) ?hr ?_; (case hd => rfl); (case hg => rfl); (case hr => first | (go_simp; done) | (go_simp; rfl)); intro gb150 hg w5 hbox hb; have n0_ := Aside0.mk (below_step (by repeat (first | (with_reducible first | exact HB.out | apply bwA | apply bwN | apply bwD) | exact HB.out)) hb); have n1_ := Aside0.mk (hbox); have n2_ := Aside0.mk ((by rw [hg]; exact (below_size (by repeat (first | (with_reducible first | exact HB.out | apply bwA | apply bwN | apply bwD) | exact HB.out))) : w.heap.size ≤ gb150)); have n3_ := Aside0.mk ((by rw [hg]; exact (below_size (by repeat (first | (with_reducible first | exact HB.out | apply bwA | apply bwN | apply bwD) | exact HB.out))) : w.heap.size ≤ gb150)); clear HB; have HB := n0_; have BK150 := n1_; have GW150 := n2_; have GE150 := n3_; clear n0_ n1_ n2_ n3_; clear hb hbox hg) | ((with_reducible refine gate_dst (N := 2) rfl ?_); refine box_event ?hg (N := 2) ?hd (cs := #[.slice none 0 0, .slice none 0 0, .slice none 0 0]) (t := 109) ?hr ?_; (case hd => rfl); (case hg => rfl); (case hr => first | (go_simp; done) | (go_simp; rfl)); intro gb151 hg w6 hbox hb; have n0_ := Aside0.mk (blk_below (g := gb150) (o := .cells #[.slice A0_0 l0_0.length c0_0, .slice A0_1 l0_1.length c0_1, .slice A0_2 l0_2.length c0_2] 131 (0, 0)) (bvK BK150.out) hb); have n1_ := Aside0.mk (below_step (by repeat (first | (with_reducible first | exact HB.out | apply bwA | apply bwN | apply bwD | refine below_set ?_ GE150.out) | exact HB.out)) hb); have n2_ := Aside0.mk (hbox); have n3_ := Aside0.mk ((by rw [hg]; exact (below_size (by repeat (first | (with_reducible first | exact HB.out | apply bwA | apply bwN | apply bwD | refine below_set ?_ GE150.out) | exact HB.out))) : w.heap.size ≤ gb151)); have n4_ := Aside0.mk ((by rw [hg]; exact (below_size (by repeat (first | (with_reducible first | exact HB.out | apply bwA | apply bwN | apply bwD | refine below_set ?_ GE150.out) | exact HB.out))) : w.heap.size ≤ gb151)); have n5_ := Aside0.mk ((by rw [hg]; exact Nat.ne_of_lt (blk_lt (g := gb150) (o := .cells #[.slice A0_0 l0_0.length c0_0, .slice A0_1 l0_1.length c0_1, .slice A0_2 l0_2.length c0_2] 131 (0, 0)) (bvK BK150.out)) : gb150 ≠ gb151)); have n6_ := Aside0.mk ((by rw [hg]; exact Nat.ne_of_gt (blk_lt (g := gb150) (o := .cells #[.slice A0_0 l0_0.length c0_0, .slice A0_1 l0_1.length c0_1, .slice A0_2 l0_2.length c0_2] 131 (0, 0)) (bvK BK150.out)) : gb151 ≠ gb150)); clear BK150; clear HB; have BK150 := n0_; have HB := n1_; have BK151 := n2_; have GW151 := n3_; have GE151 := n4_; have NB150_151 := n5_; have NB151_150 := n6_; clear n0_ n1_ n2_ n3_ n4_ n5_ n6_; clear hb hbox hg) | ((with_reducible refine gate_dst (N := 3) rfl ?_); refine box_event ?hg (N := 3) ?hd (cs := #[.slice none 0 0, .slice none 0 0, .slice none 0 0]) (t := 109) ?hr ?_; (case hd => rfl); (case hg => rfl); (case hr => first | (go_simp; done) | (go_simp; rfl)); intro gb152 hg w7 hbox hb; have n0_ := Aside0.mk (blk_below (g := gb150) (o := .cells #[.slice A0_0 l0_0.length c0_0, .slice A0_1 l0_1.length c0_1, .slice A0_2 l0_2.length c0_2] 131 (0, 0)) (bvK BK150.out) hb); have n1_ := Aside0.mk (blk_below (g := gb151) (o := .cells #[.slice none 0 0, .slice none 0 0, .slice none 0 0] 109 (0, 0)) (bvK BK151.out) hb); have n2_ := Aside0.mk (below_step (by repeat (first | (with_reducible first | exact HB.out | apply bwA | apply bwN | apply bwD | refine below_set ?_ GE150.out | refine below_set ?_ GE151.out) | exact HB.out)) hb); have n3_ := Aside0.mk (hbox); have n4_ := Aside0.mk ((by rw [hg]; exact (below_size (by repeat (first | (with_reducible first | exact HB.out | apply bwA | apply bwN | apply bwD | refine below_set ?_ GE150.out | refine below_set ?_ GE151.out) | exact HB.out))) : w.heap.size ≤ gb152)); have n5_ := Aside0.mk ((by rw [hg]; exact (below_size (by repeat (first | (with_reducible first | exact HB.out | apply bwA | apply bwN | apply bwD | refine below_set ?_ GE150.out | refine below_set ?_ GE151.out) | exact HB.out))) : w.heap.size ≤ gb152)); have n6_ := Aside0.mk ((by rw [hg]; exact Nat.ne_of_lt (blk_lt (g := gb150) (o := .cells #[.slice A0_0 l0_0.length c0_0, .slice A0_1 l0_1.length c0_1, .slice A0_2 l0_2.length c0_2] 131 (0, 0)) (bvK BK150.out)) : gb150 ≠ gb152)); have n7_ := Aside0.mk ((by rw [hg]; exact Nat.ne_of_gt (blk_lt (g := gb150) (o := .cells #[.slice A0_0 l0_0.length c0_0, .slice A0_1 l0_1.length c0_1, .slice A0_2 l0_2.length c0_2] 131 (0, 0)) (bvK BK150.out)) : gb152 ≠ gb150)); have n8_ := Aside0.mk ((by rw [hg]; exact Nat.ne_of_lt (blk_lt (g := gb151) (o := .cells #[.slice none 0 0, .slice none 0 0, .slice none 0 0] 109 (0, 0)) (bvK BK151.out)) : gb151 ≠ gb152)); have n9_ := Aside0.mk ((by rw [hg]; exact Nat.ne_of_gt (blk_lt (g := gb151) (o := .cells #[.slice none 0 0, .slice none 0 0, .slice none 0 0] 109 (0, 0)) (bvK BK151.out)) : gb152 ≠ gb151)); clear BK150; clear BK151; clear HB; have BK150 := n0_; have BK151 := n1_; have HB := n2_; have BK152 := n3_; have GW152 := n4_; have GE152 := n5_; have NB150_152 := n6_; have NB152_150 := n7_; have NB151_152 := n8_; have NB152_151 := n9_; clear n0_ n1_ n2_ n3_ n4_ n5_ n6_ n7_ n8_ n9_; clear hb hbox hg; have hnb8 := NB150_151.out; have hnc8 := NB151_150.out; have hnb9 := NB150_152.out; have hnc9 := NB152_150.out; have hcz10_0 : w7.cell? ⟨gb150, 0, none⟩ = some (.slice A0_0 l0_0.length c0_0) := (blk_cell BK150.out 0).trans rfl; have hcz10_1 : w7.cell? ⟨gb150, 1, none⟩ = some (.slice A0_1 l0_1.length c0_1) := (blk_cell BK150.out 1).trans rfl; have hcz10_2 : w7.cell? ⟨gb150, 2, none⟩ = some (.slice A0_2 l0_2.length c0_2) := (blk_cell BK150.out 2).trans rfl; have hfz10_0 := blk_frozen BK150.out 0; have hfz10_1 := blk_frozen BK150.out 1; have hfz10_2 := blk_frozen BK150.out 2) | ((with_reducible refine gate_callee (f := 15) rfl ?_); refine goesL_ (some 6) rfl rfl Try.func15 (by kernel_rfl) rfl #[.slice A0_0 l0_0.length c0_0] rfl lmB ?_; (with_reducible refine (laws_toTermS.calls k _ _ l0_0 t153 _ ?side1 ?side2 A2.out).mono ?_); (case side1 => repeat (first | exact (Kd.C_below HR0_0.out HB.out) | (with_reducible refine Kd.C_alloc ?_ _) | (with_reducible refine Kd.C_drewN ?_ _) | (with_reducible refine Kd.C_drew ?_))); (case side2 => exact HC0_0.out); rintro e w11 ⟨v154, rfl, ho0, hb⟩; refine ⟨_, rfl, ?_⟩; have n0_ := Aside0.mk (Kd.R_lower ho0 (below_size (by repeat (first | (with_reducible first | exact HB.out | apply bwA | apply bwN | apply bwD | refine below_set ?_ GE150.out | refine below_set ?_ GE151.out | refine below_set ?_ GE152.out) | exact HB.out)))); have n1_ := Aside0.mk (blk_below (g := gb150) (o := .cells #[.slice A0_0 l0_0.length c0_0, .slice A0_1 l0_1.length c0_1, .slice A0_2 l0_2.length c0_2] 131 (0, 0)) (bvK BK150.out) hb); have n2_ := Aside0.mk (blk_below (g := gb151) (o := .cells #[.slice none 0 0, .slice none 0 0, .slice none 0 0] 109 (0, 0)) (bvK BK151.out) hb); have n3_ := Aside0.mk (blk_below (g := gb152) (o := .cells #[.slice none 0 0, .slice none 0 0, .slice none 0 0] 109 (0, 0)) (bvK BK152.out) hb); have n4_ := Aside0.mk (below_step (by repeat (first | (with_reducible first | exact HB.out | apply bwA | apply bwN | apply bwD | refine below_set ?_ GE150.out | refine below_set ?_ GE151.out | refine below_set ?_ GE152.out) | exact HB.out)) hb); clear BK150; clear BK151; clear BK152; clear HB; have HO155 := n0_; have BK150 := n1_; have BK151 := n2_; have BK152 := n3_; have HB := n4_; clear n0_ n1_ n2_ n3_ n4_; (try clear hb); (try clear hb2); (try clear hk); (try clear hi); (try clear ho0); obtain ⟨Ao12, co12, eo12⟩ := Kd.R_slice HO155.out; subst eo12; have hnb13 := NB152_151.out; have hnc13 := NB151_152.out; have hcz14_0 : w11.cell? ⟨gb152, 0, none⟩ = some (.slice none 0 0) := (blk_cell BK152.out 0).trans rfl; have hcz14_1 : w11.cell? ⟨gb152, 1, none⟩ = some (.slice none 0 0) := (blk_cell BK152.out 1).trans rfl; have hcz14_2 : w11.cell? ⟨gb152, 2, none⟩ = some (.slice none 0 0) := (blk_cell BK152.out 2).trans rfl; have hfz14_0 := blk_frozen BK152.out 0; have hfz14_1 := blk_frozen BK152.out 1; have hfz14_2 := blk_frozen BK152.out 2; have hcz15_0 : w11.cell? ⟨gb150, 0, none⟩ = some (.slice A0_0 l0_0.length c0_0) := (blk_cell BK150.out 0).trans rfl; have hcz15_1 : w11.cell? ⟨gb150, 1, none⟩ = some (.slice A0_1 l0_1.length c0_1) := (blk_cell BK150.out 1).trans rfl; have hcz15_2 : w11.cell? ⟨gb150, 2, none⟩ = some (.slice A0_2 l0_2.length c0_2) := (blk_cell BK150.out 2).trans rfl; have hfz15_0 := blk_frozen BK150.out 0; have hfz15_1 := blk_frozen BK150.out 1; have hfz15_2 := blk_frozen BK150.out 2) | ((with_reducible refine gate_callee (f := 16) rfl ?_); refine goesL_ (some 10) rfl rfl Try.func16 (by kernel_rfl) rfl #[.slice A0_1 l0_1.length c0_1] rfl lmB ?_; (with_reducible refine (laws_toIntS.calls k _ _ l0_1 t156 _ ?side1 ?side2 A3.out).mono ?_); (case side1 => exact Kd.C_below HR0_1.out (by repeat (first | (with_reducible first | exact HB.out | apply bwA | apply bwN | apply bwD | refine below_set ?_ GE150.out | refine below_set ?_ GE151.out | refine below_set ?_ GE152.out) | exact HB.out))); (case side2 => exact HC0_1.out); rintro e w16 ⟨v157, rfl, ho0, hb⟩; refine ⟨_, rfl, ?_⟩; have n0_ := Aside0.mk (Kd.R_below (by (with_reducible repeat (first | apply Kd.R_alloc | apply Kd.R_drewN | apply Kd.R_drew)); exact (Kd.R_mono (Kd.R_far (p := ⟨gb152, 0, none⟩) (Kd.R_types HO155.out BK152.out (by decide)) (fun _ hk => hk.2) (.slice Ao12 t153.length co12)) (fun _ h_ => h_.1))) hb); have n1_ := Aside0.mk (Kd.R_lower ho0 (below_size (by repeat (first | (with_reducible first | exact HB.out | apply bwA | apply bwN | apply bwD | refine below_set ?_ GE150.out | refine below_set ?_ GE151.out | refine below_set ?_ GE152.out) | exact HB.out)))); have n2_ := Aside0.mk (blk_below (g := gb150) (o := .cells #[.slice A0_0 l0_0.length c0_0, .slice A0_1 l0_1.length c0_1, .slice A0_2 l0_2.length c0_2] 131 (0, 0)) (by (with_reducible repeat (first | refine blk_drewN ?_ _ | refine blk_drew ?_ | refine blk_alloc ?_ _)); refine blk_far ?_ NB150_152.out _; (with_reducible repeat (first | refine blk_drewN ?_ _ | refine blk_drew ?_ | refine blk_alloc ?_ _)); exact BK150.out) hb); have n3_ := Aside0.mk (blk_below (g := gb151) (o := .cells #[.slice none 0 0, .slice none 0 0, .slice none 0 0] 109 (0, 0)) (by (with_reducible repeat (first | refine blk_drewN ?_ _ | refine blk_drew ?_ | refine blk_alloc ?_ _)); refine blk_far ?_ NB151_152.out _; (with_reducible repeat (first | refine blk_drewN ?_ _ | refine blk_drew ?_ | refine blk_alloc ?_ _)); exact BK151.out) hb); have n4_ := Aside0.mk (blk_below (g := gb152) (o := .cells #[.slice Ao12 t153.length co12, .slice none 0 0, .slice none 0 0] 109 (0, 0)) (by (with_reducible repeat (first | refine blk_drewN ?_ _ | refine blk_drew ?_ | refine blk_alloc ?_ _)); refine blk_put (cs := #[.slice none 0 0, .slice none 0 0, .slice none 0 0]) ?_ 0 _ rfl; (with_reducible repeat (first | refine blk_drewN ?_ _ | refine blk_drew ?_ | refine blk_alloc ?_ _)); exact BK152.out) hb); have n5_ := Aside0.mk (below_step (by repeat (first | (with_reducible first | exact HB.out | apply bwA | apply bwN | apply bwD | refine below_set ?_ GE150.out | refine below_set ?_ GE151.out | refine below_set ?_ GE152.out) | exact HB.out)) hb); clear HO155; clear BK150; clear BK151; clear BK152; clear HB; have HO155 := n0_; have HO158 := n1_; have BK150 := n2_; have BK151 := n3_; have BK152 := n4_; have HB := n5_; clear n0_ n1_ n2_ n3_ n4_ n5_; (try clear hb); (try clear hb2); (try clear hk); (try clear hi); (try clear ho0); obtain ⟨Ao17, co17, eo17⟩ := Kd.R_slice HO158.out; subst eo17; have hcz18_0 : w16.cell? ⟨gb152, 0, none⟩ = some (.slice Ao12 t153.length co12) := (blk_cell BK152.out 0).trans rfl; have hcz18_1 : w16.cell? ⟨gb152, 1, none⟩ = some (.slice none 0 0) := (blk_cell BK152.out 1).trans rfl; have hcz18_2 : w16.cell? ⟨gb152, 2, none⟩ = some (.slice none 0 0) := (blk_cell BK152.out 2).trans rfl; have hfz18_0 := blk_frozen BK152.out 0; have hfz18_1 := blk_frozen BK152.out 1; have hfz18_2 := blk_frozen BK152.out 2; have hcz19_0 : w16.cell? ⟨gb150, 0, none⟩ = some (.slice A0_0 l0_0.length c0_0) := (blk_cell BK150.out 0).trans rfl; have hcz19_1 : w16.cell? ⟨gb150, 1, none⟩ = some (.slice A0_1 l0_1.length c0_1) := (blk_cell BK150.out 1).trans rfl; have hcz19_2 : w16.cell? ⟨gb150, 2, none⟩ = some (.slice A0_2 l0_2.length c0_2) := (blk_cell BK150.out 2).trans rfl; have hfz19_0 := blk_frozen BK150.out 0; have hfz19_1 := blk_frozen BK150.out 1; have hfz19_2 := blk_frozen BK150.out 2) | ((with_reducible refine gate_callee (f := 139) rfl ?_); refine goesL_ (some 14) rfl rfl Try.func139 (by kernel_rfl) rfl #[.slice A0_2 l0_2.length c0_2] rfl lmB ?_; (with_reducible refine (laws_toTermSS.calls k _ _ l0_2 t159 _ ?side1 ?side2 A4.out).mono ?_); (case side1 => exact Kd.C_below HR0_2.out (by repeat (first | (with_reducible first | exact HB.out | apply bwA | apply bwN | apply bwD | refine below_set ?_ GE150.out | refine below_set ?_ GE151.out | refine below_set ?_ GE152.out) | exact HB.out))); (case side2 => exact HC0_2.out); rintro e w20 ⟨v160, rfl, ho0, hb⟩; refine ⟨_, rfl, ?_⟩; have n0_ := Aside0.mk (Kd.R_below (by (with_reducible repeat (first | apply Kd.R_alloc | apply Kd.R_drewN | apply Kd.R_drew)); exact (Kd.R_mono (Kd.R_far (p := ⟨gb152, 1, none⟩) (Kd.R_types HO155.out BK152.out (by decide)) (fun _ hk => hk.2) (.slice Ao17 t156.length co17)) (fun _ h_ => h_.1))) hb); have n1_ := Aside0.mk (Kd.R_below (by (with_reducible repeat (first | apply Kd.R_alloc | apply Kd.R_drewN | apply Kd.R_drew)); exact (Kd.R_mono (Kd.R_far (p := ⟨gb152, 1, none⟩) (Kd.R_types HO158.out BK152.out (by decide)) (fun _ hk => hk.2) (.slice Ao17 t156.length co17)) (fun _ h_ => h_.1))) hb); have n2_ := Aside0.mk (Kd.S_lower (Kd.S_new' ho0 (Kd.R_lt (by (with_reducible repeat (first | apply Kd.R_alloc | apply Kd.R_drewN | apply Kd.R_drew)); exact (Kd.R_mono (Kd.R_far (p := ⟨gb152, 1, none⟩) (Kd.R_types HO155.out BK152.out (by decide)) (fun _ hk => hk.2) (.slice Ao17 t156.length co17)) (fun _ h_ => h_.1))))) (below_size (by repeat (first | (with_reducible first | exact HB.out | apply bwA | apply bwN | apply bwD | refine below_set ?_ GE150.out | refine below_set ?_ GE151.out | refine below_set ?_ GE152.out) | exact HB.out)))); have n3_ := Aside0.mk (blk_below (g := gb150) (o := .cells #[.slice A0_0 l0_0.length c0_0, .slice A0_1 l0_1.length c0_1, .slice A0_2 l0_2.length c0_2] 131 (0, 0)) (by (with_reducible repeat (first | refine blk_drewN ?_ _ | refine blk_drew ?_ | refine blk_alloc ?_ _)); refine blk_far ?_ NB150_152.out _; (with_reducible repeat (first | refine blk_drewN ?_ _ | refine blk_drew ?_ | refine blk_alloc ?_ _)); exact BK150.out) hb); have n4_ := Aside0.mk (blk_below (g := gb151) (o := .cells #[.slice none 0 0, .slice none 0 0, .slice none 0 0] 109 (0, 0)) (by (with_reducible repeat (first | refine blk_drewN ?_ _ | refine blk_drew ?_ | refine blk_alloc ?_ _)); refine blk_far ?_ NB151_152.out _; (with_reducible repeat (first | refine blk_drewN ?_ _ | refine blk_drew ?_ | refine blk_alloc ?_ _)); exact BK151.out) hb); have n5_ := Aside0.mk (blk_below (g := gb152) (o := .cells #[.slice Ao12 t153.length co12, .slice Ao17 t156.length co17, .slice none 0 0] 109 (0, 0)) (by (with_reducible repeat (first | refine blk_drewN ?_ _ | refine blk_drew ?_ | refine blk_alloc ?_ _)); refine blk_put (cs := #[.slice Ao12 t153.length co12, .slice none 0 0, .slice none 0 0]) ?_ 1 _ rfl; (with_reducible repeat (first | refine blk_drewN ?_ _ | refine blk_drew ?_ | refine blk_alloc ?_ _)); exact BK152.out) hb); have n6_ := Aside0.mk (below_step (by repeat (first | (with_reducible first | exact HB.out | apply bwA | apply bwN | apply bwD | refine below_set ?_ GE150.out | refine below_set ?_ GE151.out | refine below_set ?_ GE152.out) | exact HB.out)) hb); clear HO155; clear HO158; clear BK150; clear BK151; clear BK152; clear HB; have HO155 := n0_; have HO158 := n1_; have HO161 := n2_; have BK150 := n3_; have BK151 := n4_; have BK152 := n5_; have HB := n6_; clear n0_ n1_ n2_ n3_ n4_ n5_ n6_; (try clear hb); (try clear hb2); (try clear hk); (try clear hi); (try clear ho0); obtain ⟨Ao21, co21, eo21⟩ := Kd.S_slice HO161.out; subst eo21; have hcz22_0 : w20.cell? ⟨gb152, 0, none⟩ = some (.slice Ao12 t153.length co12) := (blk_cell BK152.out 0).trans rfl; have hcz22_1 : w20.cell? ⟨gb152, 1, none⟩ = some (.slice Ao17 t156.length co17) := (blk_cell BK152.out 1).trans rfl; have hcz22_2 : w20.cell? ⟨gb152, 2, none⟩ = some (.slice none 0 0) := (blk_cell BK152.out 2).trans rfl; have hfz22_0 := blk_frozen BK152.out 0; have hfz22_1 := blk_frozen BK152.out 1; have hfz22_2 := blk_frozen BK152.out 2; have hcz23_0 : w20.cell? ⟨gb151, 0, none⟩ = some (.slice none 0 0) := (blk_cell BK151.out 0).trans rfl; have hcz23_1 : w20.cell? ⟨gb151, 1, none⟩ = some (.slice none 0 0) := (blk_cell BK151.out 1).trans rfl; have hcz23_2 : w20.cell? ⟨gb151, 2, none⟩ = some (.slice none 0 0) := (blk_cell BK151.out 2).trans rfl; have hfz23_0 := blk_frozen BK151.out 0; have hfz23_1 := blk_frozen BK151.out 1; have hfz23_2 := blk_frozen BK151.out 2))
 refine bodyPost_ret (results_cell_row rfl _ _ gb151 109 #[.slice Ao12 t153.length co12, .slice Ao17 t156.length co17, .slice Ao21 t159.length co21] (0, 0) _ rfl (by (with_reducible repeat (first | refine blk_drewN ?_ _ | refine blk_drew ?_ | refine blk_alloc ?_ _)); refine blk_put (cs := #[.slice Ao12 t153.length co12, .slice Ao17 t156.length co17, .slice none 0 0]) ?_ 2 _ rfl; (with_reducible repeat (first | refine blk_drewN ?_ _ | refine blk_drew ?_ | refine blk_alloc ?_ _)); refine blk_put (cs := #[.slice Ao12 t153.length co12, .slice none 0 0, .slice none 0 0]) ?_ 1 _ rfl; (with_reducible repeat (first | refine blk_drewN ?_ _ | refine blk_drew ?_ | refine blk_alloc ?_ _)); refine blk_put (cs := #[.slice none 0 0, .slice none 0 0, .slice none 0 0]) ?_ 0 _ rfl; (with_reducible repeat (first | refine blk_drewN ?_ _ | refine blk_drew ?_ | refine blk_alloc ?_ _)); refine blk_far ?_ NB151_152.out _; (with_reducible repeat (first | refine blk_drewN ?_ _ | refine blk_drew ?_ | refine blk_alloc ?_ _)); exact BK151.out) Try.underlying109 rfl (by kernel_rfl)) rfl ?_
 exact ⟨_, _, _, ers, by (with_reducible repeat (first | apply Kd.R_alloc | apply Kd.R_drewN | apply Kd.R_drew)); exact Kd.R_mono (Kd.R_far (p := ⟨gb151, 2, none⟩) (Kd.R_far (p := ⟨gb151, 1, none⟩) (Kd.R_far (p := ⟨gb151, 0, none⟩) (Kd.R_far (p := ⟨gb152, 2, none⟩) (Kd.R_types (Kd.R_types HO155.out BK152.out (by decide)) BK151.out (by decide)) (fun _ hk => hk.1.2) (.slice Ao21 t159.length co21)) (fun _ hk => hk.2) (.slice Ao12 t153.length co12)) (fun _ hk => hk.2) (.slice Ao17 t156.length co17)) (fun _ hk => hk.2) (.slice Ao21 t159.length co21)) (fun _ hk => trivial), by (with_reducible repeat (first | apply Kd.R_alloc | apply Kd.R_drewN | apply Kd.R_drew)); exact Kd.R_mono (Kd.R_far (p := ⟨gb151, 2, none⟩) (Kd.R_far (p := ⟨gb151, 1, none⟩) (Kd.R_far (p := ⟨gb151, 0, none⟩) (Kd.R_far (p := ⟨gb152, 2, none⟩) (Kd.R_types (Kd.R_types HO158.out BK152.out (by decide)) BK151.out (by decide)) (fun _ hk => hk.1.2) (.slice Ao21 t159.length co21)) (fun _ hk => hk.2) (.slice Ao12 t153.length co12)) (fun _ hk => hk.2) (.slice Ao17 t156.length co17)) (fun _ hk => hk.2) (.slice Ao21 t159.length co21)) (fun _ hk => trivial), by (with_reducible repeat (first | apply Kd.S_alloc | apply Kd.S_drewN | apply Kd.S_drew)); exact Kd.S_mono (Kd.S_far (p := ⟨gb151, 2, none⟩) (Kd.S_far (p := ⟨gb151, 1, none⟩) (Kd.S_far (p := ⟨gb151, 0, none⟩) (Kd.S_far (p := ⟨gb152, 2, none⟩) (Kd.S_types (Kd.S_types HO161.out BK152.out (by decide)) BK151.out (by decide)) (fun _ hk => hk.1.2) (.slice Ao21 t159.length co21)) (fun _ hk => hk.2) (.slice Ao12 t153.length co12)) (fun _ hk => hk.2) (.slice Ao17 t156.length co17)) (fun _ hk => hk.2) (.slice Ao21 t159.length co21)) (fun _ hk => hk.1.1.2), by repeat (first | (with_reducible first | exact HB.out | apply bwA | apply bwN | apply bwD | refine below_set ?_ GE150.out | refine below_set ?_ GE151.out | refine below_set ?_ GE152.out) | exact HB.out)⟩

/-! ### laws_toRuleS: function 79 -/
def laws_toRuleS.l0 : Nat → List (S131) → List (S109) → Int → Option ((List (S109)))
 | 0, _, _, _ => none
 | k + 1, x0, x3, x4 => if x4 < (x0.length : Int) then (if 0 ≤ x4 then ((laws_toRule.f k ((rd_T131 x0 x4).f0) ((rd_T131 x0 x4).f1) ((rd_T131 x0 x4).f2)).bind fun bt166 => (if x4 < (x3.length : Int) then (laws_toRuleS.l0 k x0 (x3.set (x4 : Int).toNat (⟨bt166.1, bt166.2.1, bt166.2.2⟩ : S109)) (wrap64 (x4 + 1))) else (none))) else (none)) else (some x3)
def laws_toRuleS.f (k : Nat) (l0 : List (S131)) : Option ((List (S109))) := if 0 ≤ (l0.length : Int) then (if ((l0.length : Int) : Int).toNat ≤ 3909374676536 then (laws_toRuleS.l0 k l0 (List.replicate ((l0.length : Int) : Int).toNat z109) 0) else (none)) else (none)
theorem laws_toRuleS.mono_l : ∀ k, (∀ y0 y1 y2, LeO (laws_toRuleS.l0 k y0 y1 y2) (laws_toRuleS.l0 (k + 1) y0 y1 y2))
 | 0 => fun _ _ _ r h => by simp [laws_toRuleS.l0] at h
 | k + 1 => by
  have ih0 := laws_toRuleS.mono_l k
  ·intro y0 y1 y2
   unfold laws_toRuleS.l0
   repeat' first
   | (with_reducible exact ih0 _ _ _)
   | (with_reducible exact laws_toRule.mono _ _ _ _)
   | (with_reducible exact LeO.refl _)
   | (with_reducible exact LeO.none _)
   | (with_reducible refine LeO.ite ?_ ?_)
   | (with_reducible refine LeO.bind ?_ (fun _ => ?_))
   | exact ih0 _ _ _
   | exact laws_toRule.mono _ _ _ _
   | exact LeO.none _
   | refine LeO.ite ?_ ?_
   | refine LeO.bind ?_ (fun _ => ?_)
theorem laws_toRuleS.mono : ∀ a0 k, LeO (laws_toRuleS.f k a0) (laws_toRuleS.f (k + 1) a0) := by
 intro a0 k
 have ih0 := laws_toRuleS.mono_l k
 unfold laws_toRuleS.f
 repeat' first
   | (with_reducible exact ih0 _ _ _)
   | (with_reducible exact laws_toRule.mono _ _ _ _)
   | (with_reducible exact LeO.refl _)
   | (with_reducible exact LeO.none _)
   | (with_reducible refine LeO.ite ?_ ?_)
   | (with_reducible refine LeO.bind ?_ (fun _ => ?_))
   | exact ih0 _ _ _
   | exact laws_toRule.mono _ _ _ _
   | exact LeO.none _
   | refine LeO.ite ?_ ?_
   | refine LeO.bind ?_ (fun _ => ?_)
set_option maxHeartbeats 8000000 in
set_option maxRecDepth 100000 in
theorem laws_toRuleS.calls (k : Nat) (A0 : Option Addr) (c0 : Nat) (l0 : List (S131)) (r : List (S109)) (w : World) (hr0 : Kd.C k131 w A0 l0.length l0) (hc0 : l0.length ≤ c0) (h : laws_toRuleS.f k l0 = some r) :
  Calls Try.prog 79 #[.slice A0 l0.length c0] w fun e w' => ∃ v0_ : Value, e = .returned (v0_) ∧ Kd.R k109 109 w' w.heap.size (fun _ => True) v0_ r ∧ Below w.heap.size w w' := by
 have hu131 := Try.underlying131
 have hu109 := Try.underlying109
 have HR0 := Aside0.mk hr0
 have HC0 := Aside0.mk hc0
 clear hr0 hc0
 have HB := Aside0.mk (Below.refl w.heap.size w)
 have H : (if 0 ≤ (l0.length : Int) then (if ((l0.length : Int) : Int).toNat ≤ 3909374676536 then (laws_toRuleS.l0 k l0 (List.replicate ((l0.length : Int) : Int).toNat z109) 0) else (none)) else (none)) = some r := h
 clear h
 by_cases c2 : 0 ≤ (l0.length : Int)
 ·rw [if_pos c2] at H
  have c2b0 := eq_true c2
  have c2b1 : decide (0 ≤ (l0.length : Int)) = true := decide_eq_true c2
  clear c2
  by_cases c3 : ((l0.length : Int) : Int).toNat ≤ 3909374676536
  ·rw [if_pos c3] at H
   have c3b0 := eq_true c3
   have c3b1 : decide (((l0.length : Int) : Int).toNat ≤ 3909374676536) = true := decide_eq_true c3
   clear c3
   obtain ⟨y162, hy162⟩ : ∃ y_ : List (S109), y_ = (List.replicate ((l0.length : Int) : Int).toNat z109) := ⟨_, rfl⟩
   replace H : (laws_toRuleS.l0 k l0 y162 0) = some r := by first | (rw [hy162]; with_reducible exact H) | (have H2_ := (Option.bind_some _ _).symm.trans H; rw [hy162]; with_reducible exact H2_) | (have H2_ := (Option.bind_some _ _).symm.trans H; with_reducible exact H2_) | with_reducible exact H | (rw [hy162]; exact H) | exact H
   have Ny162 := Aside0.mk hy162
   clear hy162
   have H' := Aside0.mk H
   clear H
   go_enter Try.func79, Try.ntmps79
   go_wp2_with (first | ((with_reducible refine gate_dst (N := 7) rfl ?_); refine Kd.R_make k109 _ 109 rfl (N := 7) rfl 56 _ _ rfl (l0.length : Int) rfl rfl Try.underlying56 (.agg #[(.slice none 0 0), (.slice none 0 0), (.slice none 0 0)]) 72 info109 rfl (by decide) (by omega) z109 (ok := fun _ => True) (okp := fun _ => True) (k109_mkM _ _ _ z109 (Kd.R_nil _ _ _ _ _) (Kd.R_nil _ _ _ _ _) (Kd.R_nil _ _ _ _ _)) (fun _ hk => hk) trivial (oda) (Nat.le_trans (Nat.mul_le_mul_right _ (oda : (l0.length : Int).toNat ≤ 3909374676536)) (by omega)) (Below.refl _ _) (Nat.le_refl _) ?_; intro v163 w4 ho5 hb hg_ hnew_; clear hg_ hnew_; (first | rw [← Ny162.out] at ho5 | (simp only [Int.reduceToNat] at ho5; rw [← Ny162.out] at ho5)); have n0_ := Aside0.mk (Kd.R_lower ho5 (below_size (by repeat (first | (with_reducible first | exact HB.out | apply bwA | apply bwN | apply bwD) | exact HB.out)))); have n1_ := Aside0.mk (below_step (by repeat (first | (with_reducible first | exact HB.out | apply bwA | apply bwN | apply bwD) | exact HB.out)) hb); clear HB; have HO164 := n0_; have HB := n1_; clear n0_ n1_; clear hb ho5))
   go_loopg [4] k (fun kq v4 w' => ∃ (x3_1 : List (S109)) (x4_1 : Int), v4 = .int .i64 x4_1 ∧ Aside0 (laws_toRuleS.l0 kq l0 x3_1 x4_1 = some r) ∧ Aside0 (kq ≤ k) ∧ Aside0 (Kd.R k109 109 w' w.heap.size (fun _ => True) v163 x3_1) ∧ Aside0 (Below w.heap.size w w'))
   case atStart => exact ⟨(y162), (0), rsd, H', ⟨Nat.le_refl _⟩, ⟨rvR HO164.out⟩, ⟨by repeat (first | (with_reducible first | exact HB.out | apply bwA | apply bwN | apply bwD) | exact HB.out)⟩⟩
   case round =>
    clear H'
    try clear c2
    try clear c2b0
    try clear c2b1
    try clear p2
    try clear c3
    try clear c3b0
    try clear c3b1
    obtain ⟨x3_1, x4_1, rfl, HA, HK1, HO_3, HB⟩ := hrel
    cases gk with
    | zero => exact absurd HA.out (by simp [laws_toRuleS.l0])
    | succ k1 =>
     have H := HA.out
     clear HA
     simp only [laws_toRuleS.l0] at H
     by_cases c6 : x4_1 < (l0.length : Int)
     ·rw [if_pos c6] at H
      have c6b0 : decide (x4_1 < (l0.length : Int)) = true := decide_eq_true c6
      clear c6
      by_cases c7 : 0 ≤ x4_1
      ·rw [if_pos c7] at H
       have c7b0 : decide (0 ≤ x4_1) = true := decide_eq_true c7
       clear c7
       replace H := Option.bind_eq_some_iff.mp H
       obtain ⟨⟨t166, t169, t172⟩, A80, H⟩ := H
       replace H : (if x4_1 < (x3_1.length : Int) then (laws_toRuleS.l0 k1 l0 (x3_1.set (x4_1 : Int).toNat (⟨t166, t169, t172⟩ : S109)) (wrap64 (x4_1 + 1))) else (none)) = some r := H
       have A8 := Aside0.mk A80
       clear A80
       by_cases c9 : x4_1 < (x3_1.length : Int)
       ·rw [if_pos c9] at H
        have c9b0 : decide (x4_1 < (x3_1.length : Int)) = true := decide_eq_true c9
        clear c9
        obtain ⟨y175, hy175⟩ : ∃ y_ : List (S109), y_ = (x3_1.set (x4_1 : Int).toNat (⟨t166, t169, t172⟩ : S109)) := ⟨_, rfl⟩
        replace H : (laws_toRuleS.l0 k1 l0 y175 (wrap64 (x4_1 + 1))) = some r := by first | (rw [hy175]; with_reducible exact H) | (have H2_ := (Option.bind_some _ _).symm.trans H; rw [hy175]; with_reducible exact H2_) | (have H2_ := (Option.bind_some _ _).symm.trans H; with_reducible exact H2_) | with_reducible exact H | (rw [hy175]; exact H) | exact H
        have Ny175 := Aside0.mk hy175
        clear hy175
        have H' := Aside0.mk H
        clear H
        have p165 : 0 ≤ (x4_1 : Int) := oda
        have q165 : x4_1 < (l0.length : Int) := oda
        obtain ⟨ad165, A165_0, c165_0, A165_1, c165_1, A165_2, c165_2, e165, hx165_0, hx165_1, hx165_2, hl165_0, hi165_0, hl165_1, hi165_1, hl165_2, hi165_2⟩ := at_T131 HR0.out x4_1 p165 q165
        cases e165
        try replace hx165_0 := bct HB.out hx165_0
        try replace hx165_1 := bct HB.out hx165_1
        try replace hx165_2 := bct HB.out hx165_2
        have HR165_0 := Aside0.mk hi165_0
        have HC165_0 := Aside0.mk hl165_0
        clear hi165_0 hl165_0
        have HR165_1 := Aside0.mk hi165_1
        have HC165_1 := Aside0.mk hl165_1
        clear hi165_1 hl165_1
        have HR165_2 := Aside0.mk hi165_2
        have HC165_2 := Aside0.mk hl165_2
        clear hi165_2 hl165_2
        replace p165 := eq_true p165
        replace q165 := eq_true q165
        go_wp2_with (first | ((with_reducible refine gate_callee (f := 120) rfl ?_); refine goesL_ (some 20) rfl rfl Try.func120 (by kernel_rfl) rfl #[.agg #[.slice A165_0 ((rd_T131 l0 x4_1).f0).length c165_0, .slice A165_1 ((rd_T131 l0 x4_1).f1).length c165_1, .slice A165_2 ((rd_T131 l0 x4_1).f2).length c165_2]] rfl lmB ?_; (with_reducible refine (laws_toRule.calls k1 _ _ ((rd_T131 l0 x4_1).f0) _ _ ((rd_T131 l0 x4_1).f1) _ _ ((rd_T131 l0 x4_1).f2) t166 t169 t172 _ ?side1 ?side2 ?side3 ?side4 ?side5 ?side6 A8.out).mono ?_); (case side1 => repeat (first | exact (Kd.C_below HR165_0.out HB.out) | (with_reducible refine Kd.C_alloc ?_ _) | (with_reducible refine Kd.C_drewN ?_ _) | (with_reducible refine Kd.C_drew ?_))); (case side2 => exact HC165_0.out); (case side3 => repeat (first | exact (Kd.C_below HR165_1.out HB.out) | (with_reducible refine Kd.C_alloc ?_ _) | (with_reducible refine Kd.C_drewN ?_ _) | (with_reducible refine Kd.C_drew ?_))); (case side4 => exact HC165_1.out); (case side5 => repeat (first | exact (Kd.C_below HR165_2.out HB.out) | (with_reducible refine Kd.C_alloc ?_ _) | (with_reducible refine Kd.C_drewN ?_ _) | (with_reducible refine Kd.C_drew ?_))); (case side6 => exact HC165_2.out); rintro e w11 ⟨v167, v170, v173, rfl, ho0, ho1, ho2, hb⟩; refine ⟨_, rfl, ?_⟩; have n0_ := Aside0.mk (Kd.R_mono (Kd.R_told (Kd.R_told (Kd.R_told (Kd.R_old (rvR HO_3.out) hb) (Kd.R_base ho0)) (Kd.R_base ho1)) (Kd.S_base ho2)) (fun _ h_ => h_.1)); have n1_ := Aside0.mk (Kd.R_lower ho0 (below_size (by repeat (first | (with_reducible first | exact HB.out | apply bwA | apply bwN | apply bwD) | exact HB.out)))); have n2_ := Aside0.mk (Kd.R_lower ho1 (below_size (by repeat (first | (with_reducible first | exact HB.out | apply bwA | apply bwN | apply bwD) | exact HB.out)))); have n3_ := Aside0.mk (Kd.S_lower ho2 (below_size (by repeat (first | (with_reducible first | exact HB.out | apply bwA | apply bwN | apply bwD) | exact HB.out)))); have n4_ := Aside0.mk (below_step (by repeat (first | (with_reducible first | exact HB.out | apply bwA | apply bwN | apply bwD) | exact HB.out)) hb); clear HO_3; clear HB; have HO_3 := n0_; have HO168 := n1_; have HO171 := n2_; have HO174 := n3_; have HB := n4_; clear n0_ n1_ n2_ n3_ n4_; (try clear hb); (try clear hb2); (try clear hk); (try clear hi); (try clear ho0); (try clear ho1); (try clear ho2); have p10 : 0 ≤ (x4_1 : Int) := oda; have q10 : (x4_1 : Int) < ((x3_1.length : Int) : Int) := oda; obtain ⟨go10, co10, eo10, gb10, gl10, cl10, HG10⟩ := Kd.R_form HO_3.out (by omega); (first | cases eo10 | (injection eo10 with ea_ en_ ec_; (first | subst ea_ | (injection ea_ with ea_; subst ea_)); subst ec_; clear en_)); have GB10 := Aside0.mk gb10; have GG10 := Aside0.mk HG10; clear gb10 gl10 HG10; obtain ⟨ce10, hcl10, hM10, hcc10, hfr10⟩ := Kd.R_elem HO_3.out z109 (x4_1 : Int) p10 q10; obtain ⟨ve10_0, ve10_1, ve10_2, rfl, ge10_0, ge10_1, ge10_2⟩ := k109_openM hM10; have hx10_0 : w11.cell? ⟨go10, (x4_1 : Int).toNat * 3, none⟩ = some (ve10_0) := hcc10 0 _ rfl; have hx10_1 : w11.cell? ⟨go10, (x4_1 : Int).toNat * 3 + 1, none⟩ = some (ve10_1) := hcc10 1 _ rfl; have hx10_2 : w11.cell? ⟨go10, (x4_1 : Int).toNat * 3 + 2, none⟩ = some (ve10_2) := hcc10 2 _ rfl; have hf10_0 : w11.frozen? ⟨go10, (x4_1 : Int).toNat * 3, none⟩ = false := hfr10 0; have hf10_1 : w11.frozen? ⟨go10, (x4_1 : Int).toNat * 3 + 1, none⟩ = false := hfr10 1; have hf10_2 : w11.frozen? ⟨go10, (x4_1 : Int).toNat * 3 + 2, none⟩ = false := hfr10 2; clear hcl10 hcc10 hfr10; (try clear hM10); replace p10 := eq_true p10; replace q10 := eq_true q10; have n_ := Aside0.mk (Kd.R_mono (ok' := (fun k_ => some k_ ≠ (v167 : Value).ownBlock ∧ some k_ ≠ (v170 : Value).ownBlock ∧ some k_ ≠ (v173 : Value).ownBlock)) HO_3.out (fun k_ hk => ⟨hk.1.1.2, ⟨hk.1.2, hk.2⟩⟩)); clear HO_3; have HO_3 := n_; clear n_; have HX12 := Aside0.mk (show Kd.R k109 109 w11 w.heap.size (fun _ => True) (.slice (some ⟨go10, 0, none⟩) x3_1.length co10) x3_1 from (by (with_reducible repeat (first | apply Kd.R_alloc | apply Kd.R_drewN | apply Kd.R_drew)); exact Kd.R_mono HO_3.out (fun _ hk => trivial))); obtain ⟨ce12, hcl12, hM12, hcc12, hfr12⟩ := Kd.R_elem HX12.out z109 (x4_1 : Int) (oda) (by have h_ : (x4_1 : Int) < ((x3_1.length : Int) : Int) := oda; first | exact h_ | (have e_ := (Kd.R_reads' HO_3.out).1; omega) | simpa using h_); obtain ⟨ve12_0, ve12_1, ve12_2, rfl, ge12_0, ge12_1, ge12_2⟩ := k109_openM hM12; have HP12 := Kd.R_seg HX12.out (x4_1 : Int) (oda) (by have h_ : (x4_1 : Int) < ((x3_1.length : Int) : Int) := oda; first | exact h_ | (have e_ := (Kd.R_reads' HO_3.out).1; omega) | simpa using h_) (seg := [v167, v170, v173]) (j := 0) hcl12 hcc12 (show 3 ≤ 3 from by decide) (x' := (⟨t166, t169, t172⟩ : S109)) (k109_mkM _ _ _ (⟨t166, t169, t172⟩ : S109) (Kd.R_mono (Kd.R_apart' (HO168.out) (Kd.R_typed HO_3.out) (by decide)) (fun k_ hk => ⟨trivial, fun e_ => (hk.2) (by rw [e_]; rfl)⟩)) (Kd.R_mono (Kd.R_apart' (HO171.out) (Kd.R_typed HO_3.out) (by decide)) (fun k_ hk => ⟨trivial, fun e_ => (hk.2) (by rw [e_]; rfl)⟩)) (Kd.R_mono (Kd.R_apart' ((Kd.S_R HO174.out)) (Kd.R_typed HO_3.out) (by decide)) (fun k_ hk => ⟨trivial, fun e_ => (hk.2) (by rw [e_]; rfl)⟩))) (fun _ hk => hk); have hx12_0 := hcc12 0 _ rfl; (try simp only [show (k109).sz = 3 from rfl, Nat.mul_one, Nat.add_zero] at hx12_0); have hf12_0 := hfr12 0; (try simp only [show (k109).sz = 3 from rfl, Nat.mul_one, Nat.add_zero] at hf12_0); have hx12_1 := hcc12 1 _ rfl; (try simp only [show (k109).sz = 3 from rfl, Nat.mul_one, Nat.add_zero] at hx12_1); have hf12_1 := hfr12 1; (try simp only [show (k109).sz = 3 from rfl, Nat.mul_one, Nat.add_zero] at hf12_1); have hx12_2 := hcc12 2 _ rfl; (try simp only [show (k109).sz = 3 from rfl, Nat.mul_one, Nat.add_zero] at hx12_2); have hf12_2 := hfr12 2; (try simp only [show (k109).sz = 3 from rfl, Nat.mul_one, Nat.add_zero] at hf12_2); clear hcl12 hcc12 hfr12; (try clear hM12)) | ((with_reducible refine gate_store (t := 109) (p := 21) rfl ?_); refine store_event (t := 109) (p := 21) (v := ?vo_w13) (w1 := (((w11.setCell ⟨go10, (x4_1 : Int).toNat * 3, none⟩ (v167)).setCell ⟨go10, (x4_1 : Int).toNat * 3 + 1, none⟩ (v170)).setCell ⟨go10, (x4_1 : Int).toNat * 3 + 2, none⟩ (v173))) ?hg ?ho ?hn ?hr ?_; (case ho => rfl); (case hg => rfl); (case hn => rfl); (case hr => first | (go_simp; done) | (go_simp; rfl) | (obtain ⟨_, _, e_⟩ := Kd.R_slice (HO168.out); (try subst e_); obtain ⟨_, _, e_⟩ := Kd.R_slice (HO171.out); (try subst e_); obtain ⟨_, _, e_⟩ := Kd.R_slice ((Kd.S_R HO174.out)); (try subst e_); first | (go_simp; done) | (go_simp; rfl))); intro w13 hw; have hg : w11.grownBy w13 (some go10) := (by rw [hw]; exact HP12.2); have hp_ : Kd.R k109 109 w13 w.heap.size (fun _ => True) (.slice (some ⟨go10, 0, none⟩) x3_1.length co10) y175 := (by rw [hw, Ny175.out]; exact HP12.1); clear HP12; have n0_ := Aside0.mk (hp_); have n1_ := Aside0.mk ((by rw [hw]; exact below_set (below_set (below_set (HB.out) GB10.out) GB10.out) GB10.out : Below w.heap.size w w13)); clear HO_3; clear HB; clear HO168; clear HO171; clear HO174; have HO_3 := n0_; have HB := n1_; clear n0_ n1_; clear hg hw hp_))
        go_roundg k1
        case measure => have := HK1.out; omega
        case rel => exact ⟨(y175), (wrap64 (x4_1 + 1)), rsd, H', ⟨by have := HK1.out; omega⟩, ⟨rvR HO_3.out⟩, ⟨by repeat (first | (with_reducible first | exact HB.out | apply bwA | apply bwN | apply bwD) | exact HB.out)⟩⟩
       ·rw [if_neg c9] at H
        exact absurd H (by simp)
      ·rw [if_neg c7] at H
       exact absurd H (by simp)
     ·rw [if_neg c6] at H
      have c6b0 : decide (x4_1 < (l0.length : Int)) = false := decide_eq_false c6
      clear c6
      obtain rfl := Option.some.inj H
      (try rw [hl165_0] at c6b0)
      (try rw [hl165_1] at c6b0)
      (try rw [hl165_2] at c6b0)
      go_wp2
      go_ret
      exact ⟨_, ers, by (with_reducible repeat (first | apply Kd.R_alloc | apply Kd.R_drewN | apply Kd.R_drew)); exact HO_3.out, by repeat (first | (with_reducible first | exact HB.out | apply bwA | apply bwN | apply bwD) | exact HB.out)⟩
  ·rw [if_neg c3] at H
   exact absurd H (by simp)
 ·rw [if_neg c2] at H
  exact absurd H (by simp)

/-! ### laws_toSystem: function 35 -/
def laws_toSystem.f (k : Nat) (l0_0 : List (S133)) (l0_1 : List (S131)) : Option ((List (S99)) × (List (S109))) := (laws_toVarS.f k l0_0).bind fun t179 => ((laws_toRuleS.f k l0_1).bind fun t182 => (some (t179, t182)))
theorem laws_toSystem.mono : ∀ a0 a1 k, LeO (laws_toSystem.f k a0 a1) (laws_toSystem.f (k + 1) a0 a1) := by
 intro a0 a1 k
 unfold laws_toSystem.f
 repeat' first
   | (with_reducible exact laws_toRuleS.mono _ _)
   | (with_reducible exact laws_toVarS.mono _ _)
   | (with_reducible exact LeO.refl _)
   | (with_reducible exact LeO.none _)
   | (with_reducible refine LeO.ite ?_ ?_)
   | (with_reducible refine LeO.bind ?_ (fun _ => ?_))
   | exact laws_toRuleS.mono _ _
   | exact laws_toVarS.mono _ _
   | exact LeO.none _
   | refine LeO.ite ?_ ?_
   | refine LeO.bind ?_ (fun _ => ?_)
set_option maxHeartbeats 8000000 in
set_option maxRecDepth 100000 in
theorem laws_toSystem.calls (k : Nat) (A0_0 : Option Addr) (c0_0 : Nat) (l0_0 : List (S133)) (A0_1 : Option Addr) (c0_1 : Nat) (l0_1 : List (S131)) (r1 : List (S99)) (r2 : List (S109)) (w : World) (hr0_0 : Kd.C k133 w A0_0 l0_0.length l0_0) (hc0_0 : l0_0.length ≤ c0_0) (hr0_1 : Kd.C k131 w A0_1 l0_1.length l0_1) (hc0_1 : l0_1.length ≤ c0_1) (h : laws_toSystem.f k l0_0 l0_1 = some (r1, r2)) :
  Calls Try.prog 35 #[.agg #[.slice A0_0 l0_0.length c0_0, .slice A0_1 l0_1.length c0_1]] w fun e w' => ∃ v0_ v1_ : Value, e = .returned (.agg #[v0_, v1_]) ∧ Kd.R k99 99 w' w.heap.size (fun _ => True) v0_ r1 ∧ Kd.R k109 109 w' w.heap.size (fun _ => True) v1_ r2 ∧ Below w.heap.size w w' := by
 have hu52 := Try.underlying52
 have hu58 := Try.underlying58
 have HR0_0 := Aside0.mk hr0_0
 have HC0_0 := Aside0.mk hc0_0
 clear hr0_0 hc0_0
 have HR0_1 := Aside0.mk hr0_1
 have HC0_1 := Aside0.mk hc0_1
 clear hr0_1 hc0_1
 have HB := Aside0.mk (Below.refl w.heap.size w)
 have H : ((laws_toVarS.f k l0_0).bind fun t179 => ((laws_toRuleS.f k l0_1).bind fun t182 => (some (t179, t182)))) = some (r1, r2) := h
 clear h
 replace H := Option.bind_eq_some_iff.mp H
 obtain ⟨t179, A20, H⟩ := H
 replace H : ((laws_toRuleS.f k l0_1).bind fun t182 => (some (t179, t182))) = some (r1, r2) := H
 have A2 := Aside0.mk A20
 clear A20
 replace H := Option.bind_eq_some_iff.mp H
 obtain ⟨t182, A30, H⟩ := H
 replace H : (some (t179, t182)) = some (r1, r2) := H
 have A3 := Aside0.mk A30
 clear A30
 simp only [Option.some.injEq, Prod.mk.injEq] at H
 obtain ⟨rfl, rfl⟩ := H
 go_enter Try.func35, Try.ntmps35
 go_wp2_with (first | ((with_reducible refine gate_dst (N := 1) rfl ?_); refine box_event ?hg (N := 1) ?hd (cs := #[.slice A0_0 l0_0.length c0_0, .slice A0_1 l0_1.length c0_1]) (t := 52) ?hr ?_; (case hd => rfl); (case hg => rfl); (case hr => first | (go_simp; done) | (go_simp; rfl)); intro gb176 hg w4 hbox hb; have n0_ := Aside0.mk (below_step (by repeat (first | (with_reducible first | exact HB.out | apply bwA | apply bwN | apply bwD) | exact HB.out)) hb); have n1_ := Aside0.mk (hbox); have n2_ := Aside0.mk ((by rw [hg]; exact (below_size (by repeat (first | (with_reducible first | exact HB.out | apply bwA | apply bwN | apply bwD) | exact HB.out))) : w.heap.size ≤ gb176)); have n3_ := Aside0.mk ((by rw [hg]; exact (below_size (by repeat (first | (with_reducible first | exact HB.out | apply bwA | apply bwN | apply bwD) | exact HB.out))) : w.heap.size ≤ gb176)); clear HB; have HB := n0_; have BK176 := n1_; have GW176 := n2_; have GE176 := n3_; clear n0_ n1_ n2_ n3_; clear hb hbox hg) | ((with_reducible refine gate_dst (N := 2) rfl ?_); refine box_event ?hg (N := 2) ?hd (cs := #[.slice none 0 0, .slice none 0 0]) (t := 58) ?hr ?_; (case hd => rfl); (case hg => rfl); (case hr => first | (go_simp; done) | (go_simp; rfl)); intro gb177 hg w5 hbox hb; have n0_ := Aside0.mk (blk_below (g := gb176) (o := .cells #[.slice A0_0 l0_0.length c0_0, .slice A0_1 l0_1.length c0_1] 52 (0, 0)) (bvK BK176.out) hb); have n1_ := Aside0.mk (below_step (by repeat (first | (with_reducible first | exact HB.out | apply bwA | apply bwN | apply bwD | refine below_set ?_ GE176.out) | exact HB.out)) hb); have n2_ := Aside0.mk (hbox); have n3_ := Aside0.mk ((by rw [hg]; exact (below_size (by repeat (first | (with_reducible first | exact HB.out | apply bwA | apply bwN | apply bwD | refine below_set ?_ GE176.out) | exact HB.out))) : w.heap.size ≤ gb177)); have n4_ := Aside0.mk ((by rw [hg]; exact (below_size (by repeat (first | (with_reducible first | exact HB.out | apply bwA | apply bwN | apply bwD | refine below_set ?_ GE176.out) | exact HB.out))) : w.heap.size ≤ gb177)); have n5_ := Aside0.mk ((by rw [hg]; exact Nat.ne_of_lt (blk_lt (g := gb176) (o := .cells #[.slice A0_0 l0_0.length c0_0, .slice A0_1 l0_1.length c0_1] 52 (0, 0)) (bvK BK176.out)) : gb176 ≠ gb177)); have n6_ := Aside0.mk ((by rw [hg]; exact Nat.ne_of_gt (blk_lt (g := gb176) (o := .cells #[.slice A0_0 l0_0.length c0_0, .slice A0_1 l0_1.length c0_1] 52 (0, 0)) (bvK BK176.out)) : gb177 ≠ gb176)); clear BK176; clear HB; have BK176 := n0_; have HB := n1_; have BK177 := n2_; have GW177 := n3_; have GE177 := n4_; have NB176_177 := n5_; have NB177_176 := n6_; clear n0_ n1_ n2_ n3_ n4_ n5_ n6_; clear hb hbox hg) | ((with_reducible refine gate_dst (N := 3) rfl ?_); refine box_event ?hg (N := 3) ?hd (cs := #[.slice none 0 0, .slice none 0 0]) (t := 58) ?hr ?_; (case hd => rfl); (case hg => rfl); (case hr => first | (go_simp; done) | (go_simp; rfl)); intro gb178 hg w6 hbox hb; have n0_ := Aside0.mk (blk_below (g := gb176) (o := .cells #[.slice A0_0 l0_0.length c0_0, .slice A0_1 l0_1.length c0_1] 52 (0, 0)) (bvK BK176.out) hb); have n1_ := Aside0.mk (blk_below (g := gb177) (o := .cells #[.slice none 0 0, .slice none 0 0] 58 (0, 0)) (bvK BK177.out) hb); have n2_ := Aside0.mk (below_step (by repeat (first | (with_reducible first | exact HB.out | apply bwA | apply bwN | apply bwD | refine below_set ?_ GE176.out | refine below_set ?_ GE177.out) | exact HB.out)) hb); have n3_ := Aside0.mk (hbox); have n4_ := Aside0.mk ((by rw [hg]; exact (below_size (by repeat (first | (with_reducible first | exact HB.out | apply bwA | apply bwN | apply bwD | refine below_set ?_ GE176.out | refine below_set ?_ GE177.out) | exact HB.out))) : w.heap.size ≤ gb178)); have n5_ := Aside0.mk ((by rw [hg]; exact (below_size (by repeat (first | (with_reducible first | exact HB.out | apply bwA | apply bwN | apply bwD | refine below_set ?_ GE176.out | refine below_set ?_ GE177.out) | exact HB.out))) : w.heap.size ≤ gb178)); have n6_ := Aside0.mk ((by rw [hg]; exact Nat.ne_of_lt (blk_lt (g := gb176) (o := .cells #[.slice A0_0 l0_0.length c0_0, .slice A0_1 l0_1.length c0_1] 52 (0, 0)) (bvK BK176.out)) : gb176 ≠ gb178)); have n7_ := Aside0.mk ((by rw [hg]; exact Nat.ne_of_gt (blk_lt (g := gb176) (o := .cells #[.slice A0_0 l0_0.length c0_0, .slice A0_1 l0_1.length c0_1] 52 (0, 0)) (bvK BK176.out)) : gb178 ≠ gb176)); have n8_ := Aside0.mk ((by rw [hg]; exact Nat.ne_of_lt (blk_lt (g := gb177) (o := .cells #[.slice none 0 0, .slice none 0 0] 58 (0, 0)) (bvK BK177.out)) : gb177 ≠ gb178)); have n9_ := Aside0.mk ((by rw [hg]; exact Nat.ne_of_gt (blk_lt (g := gb177) (o := .cells #[.slice none 0 0, .slice none 0 0] 58 (0, 0)) (bvK BK177.out)) : gb178 ≠ gb177)); clear BK176; clear BK177; clear HB; have BK176 := n0_; have BK177 := n1_; have HB := n2_; have BK178 := n3_; have GW178 := n4_; have GE178 := n5_; have NB176_178 := n6_; have NB178_176 := n7_; have NB177_178 := n8_; have NB178_177 := n9_; clear n0_ n1_ n2_ n3_ n4_ n5_ n6_ n7_ n8_ n9_; clear hb hbox hg; have hnb7 := NB176_177.out; have hnc7 := NB177_176.out; have hnb8 := NB176_178.out; have hnc8 := NB178_176.out; have hcz9_0 : w6.cell? ⟨gb176, 0, none⟩ = some (.slice A0_0 l0_0.length c0_0) := (blk_cell BK176.out 0).trans rfl; have hcz9_1 : w6.cell? ⟨gb176, 1, none⟩ = some (.slice A0_1 l0_1.length c0_1) := (blk_cell BK176.out 1).trans rfl; have hfz9_0 := blk_frozen BK176.out 0; have hfz9_1 := blk_frozen BK176.out 1) | ((with_reducible refine gate_callee (f := 78) rfl ?_); refine goesL_ (some 6) rfl rfl Try.func78 (by kernel_rfl) rfl #[.slice A0_0 l0_0.length c0_0] rfl lmB ?_; (with_reducible refine (laws_toVarS.calls k _ _ l0_0 t179 _ ?side1 ?side2 A2.out).mono ?_); (case side1 => repeat (first | exact (Kd.C_below HR0_0.out HB.out) | (with_reducible refine Kd.C_alloc ?_ _) | (with_reducible refine Kd.C_drewN ?_ _) | (with_reducible refine Kd.C_drew ?_))); (case side2 => exact HC0_0.out); rintro e w10 ⟨v180, rfl, ho0, hb⟩; refine ⟨_, rfl, ?_⟩; have n0_ := Aside0.mk (Kd.R_lower ho0 (below_size (by repeat (first | (with_reducible first | exact HB.out | apply bwA | apply bwN | apply bwD | refine below_set ?_ GE176.out | refine below_set ?_ GE177.out | refine below_set ?_ GE178.out) | exact HB.out)))); have n1_ := Aside0.mk (blk_below (g := gb176) (o := .cells #[.slice A0_0 l0_0.length c0_0, .slice A0_1 l0_1.length c0_1] 52 (0, 0)) (bvK BK176.out) hb); have n2_ := Aside0.mk (blk_below (g := gb177) (o := .cells #[.slice none 0 0, .slice none 0 0] 58 (0, 0)) (bvK BK177.out) hb); have n3_ := Aside0.mk (blk_below (g := gb178) (o := .cells #[.slice none 0 0, .slice none 0 0] 58 (0, 0)) (bvK BK178.out) hb); have n4_ := Aside0.mk (below_step (by repeat (first | (with_reducible first | exact HB.out | apply bwA | apply bwN | apply bwD | refine below_set ?_ GE176.out | refine below_set ?_ GE177.out | refine below_set ?_ GE178.out) | exact HB.out)) hb); clear BK176; clear BK177; clear BK178; clear HB; have HO181 := n0_; have BK176 := n1_; have BK177 := n2_; have BK178 := n3_; have HB := n4_; clear n0_ n1_ n2_ n3_ n4_; (try clear hb); (try clear hb2); (try clear hk); (try clear hi); (try clear ho0); obtain ⟨Ao11, co11, eo11⟩ := Kd.R_slice HO181.out; subst eo11; have hnb12 := NB178_177.out; have hnc12 := NB177_178.out; have hcz13_0 : w10.cell? ⟨gb178, 0, none⟩ = some (.slice none 0 0) := (blk_cell BK178.out 0).trans rfl; have hcz13_1 : w10.cell? ⟨gb178, 1, none⟩ = some (.slice none 0 0) := (blk_cell BK178.out 1).trans rfl; have hfz13_0 := blk_frozen BK178.out 0; have hfz13_1 := blk_frozen BK178.out 1; have hcz14_0 : w10.cell? ⟨gb176, 0, none⟩ = some (.slice A0_0 l0_0.length c0_0) := (blk_cell BK176.out 0).trans rfl; have hcz14_1 : w10.cell? ⟨gb176, 1, none⟩ = some (.slice A0_1 l0_1.length c0_1) := (blk_cell BK176.out 1).trans rfl; have hfz14_0 := blk_frozen BK176.out 0; have hfz14_1 := blk_frozen BK176.out 1) | ((with_reducible refine gate_callee (f := 79) rfl ?_); refine goesL_ (some 10) rfl rfl Try.func79 (by kernel_rfl) rfl #[.slice A0_1 l0_1.length c0_1] rfl lmB ?_; (with_reducible refine (laws_toRuleS.calls k _ _ l0_1 t182 _ ?side1 ?side2 A3.out).mono ?_); (case side1 => exact Kd.C_below HR0_1.out (by repeat (first | (with_reducible first | exact HB.out | apply bwA | apply bwN | apply bwD | refine below_set ?_ GE176.out | refine below_set ?_ GE177.out | refine below_set ?_ GE178.out) | exact HB.out))); (case side2 => exact HC0_1.out); rintro e w15 ⟨v183, rfl, ho0, hb⟩; refine ⟨_, rfl, ?_⟩; have n0_ := Aside0.mk (Kd.R_below (by (with_reducible repeat (first | apply Kd.R_alloc | apply Kd.R_drewN | apply Kd.R_drew)); exact (Kd.R_mono (Kd.R_far (p := ⟨gb178, 0, none⟩) (Kd.R_types HO181.out BK178.out (by decide)) (fun _ hk => hk.2) (.slice Ao11 t179.length co11)) (fun _ h_ => h_.1))) hb); have n1_ := Aside0.mk (Kd.R_lower ho0 (below_size (by repeat (first | (with_reducible first | exact HB.out | apply bwA | apply bwN | apply bwD | refine below_set ?_ GE176.out | refine below_set ?_ GE177.out | refine below_set ?_ GE178.out) | exact HB.out)))); have n2_ := Aside0.mk (blk_below (g := gb176) (o := .cells #[.slice A0_0 l0_0.length c0_0, .slice A0_1 l0_1.length c0_1] 52 (0, 0)) (by (with_reducible repeat (first | refine blk_drewN ?_ _ | refine blk_drew ?_ | refine blk_alloc ?_ _)); refine blk_far ?_ NB176_178.out _; (with_reducible repeat (first | refine blk_drewN ?_ _ | refine blk_drew ?_ | refine blk_alloc ?_ _)); exact BK176.out) hb); have n3_ := Aside0.mk (blk_below (g := gb177) (o := .cells #[.slice none 0 0, .slice none 0 0] 58 (0, 0)) (by (with_reducible repeat (first | refine blk_drewN ?_ _ | refine blk_drew ?_ | refine blk_alloc ?_ _)); refine blk_far ?_ NB177_178.out _; (with_reducible repeat (first | refine blk_drewN ?_ _ | refine blk_drew ?_ | refine blk_alloc ?_ _)); exact BK177.out) hb); have n4_ := Aside0.mk (blk_below (g := gb178) (o := .cells #[.slice Ao11 t179.length co11, .slice none 0 0] 58 (0, 0)) (by (with_reducible repeat (first | refine blk_drewN ?_ _ | refine blk_drew ?_ | refine blk_alloc ?_ _)); refine blk_put (cs := #[.slice none 0 0, .slice none 0 0]) ?_ 0 _ rfl; (with_reducible repeat (first | refine blk_drewN ?_ _ | refine blk_drew ?_ | refine blk_alloc ?_ _)); exact BK178.out) hb); have n5_ := Aside0.mk (below_step (by repeat (first | (with_reducible first | exact HB.out | apply bwA | apply bwN | apply bwD | refine below_set ?_ GE176.out | refine below_set ?_ GE177.out | refine below_set ?_ GE178.out) | exact HB.out)) hb); clear HO181; clear BK176; clear BK177; clear BK178; clear HB; have HO181 := n0_; have HO184 := n1_; have BK176 := n2_; have BK177 := n3_; have BK178 := n4_; have HB := n5_; clear n0_ n1_ n2_ n3_ n4_ n5_; (try clear hb); (try clear hb2); (try clear hk); (try clear hi); (try clear ho0); obtain ⟨Ao16, co16, eo16⟩ := Kd.R_slice HO184.out; subst eo16; have hcz17_0 : w15.cell? ⟨gb178, 0, none⟩ = some (.slice Ao11 t179.length co11) := (blk_cell BK178.out 0).trans rfl; have hcz17_1 : w15.cell? ⟨gb178, 1, none⟩ = some (.slice none 0 0) := (blk_cell BK178.out 1).trans rfl; have hfz17_0 := blk_frozen BK178.out 0; have hfz17_1 := blk_frozen BK178.out 1; have hcz18_0 : w15.cell? ⟨gb177, 0, none⟩ = some (.slice none 0 0) := (blk_cell BK177.out 0).trans rfl; have hcz18_1 : w15.cell? ⟨gb177, 1, none⟩ = some (.slice none 0 0) := (blk_cell BK177.out 1).trans rfl; have hfz18_0 := blk_frozen BK177.out 0; have hfz18_1 := blk_frozen BK177.out 1))
 refine bodyPost_ret (results_cell_row rfl _ _ gb177 58 #[.slice Ao11 t179.length co11, .slice Ao16 t182.length co16] (0, 0) _ rfl (by (with_reducible repeat (first | refine blk_drewN ?_ _ | refine blk_drew ?_ | refine blk_alloc ?_ _)); refine blk_put (cs := #[.slice Ao11 t179.length co11, .slice none 0 0]) ?_ 1 _ rfl; (with_reducible repeat (first | refine blk_drewN ?_ _ | refine blk_drew ?_ | refine blk_alloc ?_ _)); refine blk_put (cs := #[.slice none 0 0, .slice none 0 0]) ?_ 0 _ rfl; (with_reducible repeat (first | refine blk_drewN ?_ _ | refine blk_drew ?_ | refine blk_alloc ?_ _)); refine blk_far ?_ NB177_178.out _; (with_reducible repeat (first | refine blk_drewN ?_ _ | refine blk_drew ?_ | refine blk_alloc ?_ _)); exact BK177.out) Try.underlying58 rfl (by kernel_rfl)) rfl ?_
 exact ⟨_, _, ers, by (with_reducible repeat (first | apply Kd.R_alloc | apply Kd.R_drewN | apply Kd.R_drew)); exact Kd.R_mono (Kd.R_far (p := ⟨gb177, 1, none⟩) (Kd.R_far (p := ⟨gb177, 0, none⟩) (Kd.R_far (p := ⟨gb178, 1, none⟩) (Kd.R_types (Kd.R_types HO181.out BK178.out (by decide)) BK177.out (by decide)) (fun _ hk => hk.1.2) (.slice Ao16 t182.length co16)) (fun _ hk => hk.2) (.slice Ao11 t179.length co11)) (fun _ hk => hk.2) (.slice Ao16 t182.length co16)) (fun _ hk => trivial), by (with_reducible repeat (first | apply Kd.R_alloc | apply Kd.R_drewN | apply Kd.R_drew)); exact Kd.R_mono (Kd.R_far (p := ⟨gb177, 1, none⟩) (Kd.R_far (p := ⟨gb177, 0, none⟩) (Kd.R_far (p := ⟨gb178, 1, none⟩) (Kd.R_types (Kd.R_types HO184.out BK178.out (by decide)) BK177.out (by decide)) (fun _ hk => hk.1.2) (.slice Ao16 t182.length co16)) (fun _ hk => hk.2) (.slice Ao11 t179.length co11)) (fun _ hk => hk.2) (.slice Ao16 t182.length co16)) (fun _ hk => trivial), by repeat (first | (with_reducible first | exact HB.out | apply bwA | apply bwN | apply bwD | refine below_set ?_ GE176.out | refine below_set ?_ GE177.out | refine below_set ?_ GE178.out) | exact HB.out)⟩

/-! ### laws_eqVar: function 121 -/
def laws_eqVar.f (a0_0 : Int) (a0_1 : Int) (a0_2 : Int) (a1_0 : Int) (a1_1 : Int) (a1_2 : Int) : Option (Bool) := if a0_0 = a1_0 then (if a0_1 = a1_1 then (if a0_2 = a1_2 then (some true) else (some false)) else (some false)) else (some false)
set_option maxHeartbeats 8000000 in
set_option maxRecDepth 100000 in
theorem laws_eqVar.calls (a0_0 : Int) (a0_1 : Int) (a0_2 : Int) (a1_0 : Int) (a1_1 : Int) (a1_2 : Int) (r : Bool) (w : World) (h : laws_eqVar.f a0_0 a0_1 a0_2 a1_0 a1_1 a1_2 = some r) :
  Calls Try.prog 121 #[.agg #[.int .i64 a0_0, .int .i64 a0_1, .int .i64 a0_2], .agg #[.int .i64 a1_0, .int .i64 a1_1, .int .i64 a1_2]] w fun e w' => e = .returned (.bool r) ∧ Below w.heap.size w w' := by
 have hu99 := Try.underlying99
 have HB := Aside0.mk (Below.refl w.heap.size w)
 have H : (if a0_0 = a1_0 then (if a0_1 = a1_1 then (if a0_2 = a1_2 then (some true) else (some false)) else (some false)) else (some false)) = some r := h
 clear h
 by_cases c3 : a0_0 = a1_0
 ·rw [if_pos c3] at H
  have c3b0 : (a0_0 == a1_0) = true := beq_iff_eq.mpr c3
  have c3b1 : (a0_0 != a1_0) = false := bne_eq_false_iff_eq.mpr c3
  clear c3
  by_cases c4 : a0_1 = a1_1
  ·rw [if_pos c4] at H
   have c4b0 : (a0_1 == a1_1) = true := beq_iff_eq.mpr c4
   have c4b1 : (a0_1 != a1_1) = false := bne_eq_false_iff_eq.mpr c4
   clear c4
   by_cases c5 : a0_2 = a1_2
   ·rw [if_pos c5] at H
    have c5b0 : (a0_2 == a1_2) = true := beq_iff_eq.mpr c5
    have c5b1 : (a0_2 != a1_2) = false := bne_eq_false_iff_eq.mpr c5
    clear c5
    obtain rfl := Option.some.inj H
    go_enter Try.func121, Try.ntmps121
    go_wp2_with (first | ((with_reducible refine gate_dst (N := 2) rfl ?_); refine box_event ?hg (N := 2) ?hd (cs := #[.int .i64 a0_0, .int .i64 a0_1, .int .i64 a0_2]) (t := 99) ?hr ?_; (case hd => rfl); (case hg => rfl); (case hr => first | (go_simp; done) | (go_simp; rfl)); intro gb185 hg w6 hbox hb; have n0_ := Aside0.mk (below_step (by repeat (first | (with_reducible first | exact HB.out | apply bwA | apply bwN | apply bwD) | exact HB.out)) hb); have n1_ := Aside0.mk (hbox); have n2_ := Aside0.mk ((by rw [hg]; exact (below_size (by repeat (first | (with_reducible first | exact HB.out | apply bwA | apply bwN | apply bwD) | exact HB.out))) : w.heap.size ≤ gb185)); have n3_ := Aside0.mk ((by rw [hg]; exact (below_size (by repeat (first | (with_reducible first | exact HB.out | apply bwA | apply bwN | apply bwD) | exact HB.out))) : w.heap.size ≤ gb185)); clear HB; have HB := n0_; have BK185 := n1_; have GW185 := n2_; have GE185 := n3_; clear n0_ n1_ n2_ n3_; clear hb hbox hg) | ((with_reducible refine gate_dst (N := 3) rfl ?_); refine box_event ?hg (N := 3) ?hd (cs := #[.int .i64 a1_0, .int .i64 a1_1, .int .i64 a1_2]) (t := 99) ?hr ?_; (case hd => rfl); (case hg => rfl); (case hr => first | (go_simp; done) | (go_simp; rfl)); intro gb186 hg w7 hbox hb; have n0_ := Aside0.mk (blk_below (g := gb185) (o := .cells #[.int .i64 a0_0, .int .i64 a0_1, .int .i64 a0_2] 99 (0, 0)) (bvK BK185.out) hb); have n1_ := Aside0.mk (below_step (by repeat (first | (with_reducible first | exact HB.out | apply bwA | apply bwN | apply bwD | refine below_set ?_ GE185.out) | exact HB.out)) hb); have n2_ := Aside0.mk (hbox); have n3_ := Aside0.mk ((by rw [hg]; exact (below_size (by repeat (first | (with_reducible first | exact HB.out | apply bwA | apply bwN | apply bwD | refine below_set ?_ GE185.out) | exact HB.out))) : w.heap.size ≤ gb186)); have n4_ := Aside0.mk ((by rw [hg]; exact (below_size (by repeat (first | (with_reducible first | exact HB.out | apply bwA | apply bwN | apply bwD | refine below_set ?_ GE185.out) | exact HB.out))) : w.heap.size ≤ gb186)); have n5_ := Aside0.mk ((by rw [hg]; exact Nat.ne_of_lt (blk_lt (g := gb185) (o := .cells #[.int .i64 a0_0, .int .i64 a0_1, .int .i64 a0_2] 99 (0, 0)) (bvK BK185.out)) : gb185 ≠ gb186)); have n6_ := Aside0.mk ((by rw [hg]; exact Nat.ne_of_gt (blk_lt (g := gb185) (o := .cells #[.int .i64 a0_0, .int .i64 a0_1, .int .i64 a0_2] 99 (0, 0)) (bvK BK185.out)) : gb186 ≠ gb185)); clear BK185; clear HB; have BK185 := n0_; have HB := n1_; have BK186 := n2_; have GW186 := n3_; have GE186 := n4_; have NB185_186 := n5_; have NB186_185 := n6_; clear n0_ n1_ n2_ n3_ n4_ n5_ n6_; clear hb hbox hg; have hnb8 := NB185_186.out; have hnc8 := NB186_185.out; have hcz9_0 : w7.cell? ⟨gb185, 0, none⟩ = some (.int .i64 a0_0) := (blk_cell BK185.out 0).trans rfl; have hcz9_1 : w7.cell? ⟨gb185, 1, none⟩ = some (.int .i64 a0_1) := (blk_cell BK185.out 1).trans rfl; have hcz9_2 : w7.cell? ⟨gb185, 2, none⟩ = some (.int .i64 a0_2) := (blk_cell BK185.out 2).trans rfl; have hfz9_0 := blk_frozen BK185.out 0; have hfz9_1 := blk_frozen BK185.out 1; have hfz9_2 := blk_frozen BK185.out 2; have hcz10_0 : w7.cell? ⟨gb186, 0, none⟩ = some (.int .i64 a1_0) := (blk_cell BK186.out 0).trans rfl; have hcz10_1 : w7.cell? ⟨gb186, 1, none⟩ = some (.int .i64 a1_1) := (blk_cell BK186.out 1).trans rfl; have hcz10_2 : w7.cell? ⟨gb186, 2, none⟩ = some (.int .i64 a1_2) := (blk_cell BK186.out 2).trans rfl; have hfz10_0 := blk_frozen BK186.out 0; have hfz10_1 := blk_frozen BK186.out 1; have hfz10_2 := blk_frozen BK186.out 2))
    go_ret
    exact ⟨ers, by repeat (first | (with_reducible first | exact HB.out | apply bwA | apply bwN | apply bwD | refine below_set ?_ GE185.out | refine below_set ?_ GE186.out) | exact HB.out)⟩
   ·rw [if_neg c5] at H
    have c5b0 : (a0_2 == a1_2) = false := beq_eq_false_iff_ne.mpr c5
    have c5b1 : (a0_2 != a1_2) = true := bne_iff_ne.mpr c5
    obtain rfl := Option.some.inj H
    go_enter Try.func121, Try.ntmps121
    go_wp2_with (first | ((with_reducible refine gate_dst (N := 2) rfl ?_); refine box_event ?hg (N := 2) ?hd (cs := #[.int .i64 a0_0, .int .i64 a0_1, .int .i64 a0_2]) (t := 99) ?hr ?_; (case hd => rfl); (case hg => rfl); (case hr => first | (go_simp; done) | (go_simp; rfl)); intro gb185 hg w11 hbox hb; have n0_ := Aside0.mk (below_step (by repeat (first | (with_reducible first | exact HB.out | apply bwA | apply bwN | apply bwD) | exact HB.out)) hb); have n1_ := Aside0.mk (hbox); have n2_ := Aside0.mk ((by rw [hg]; exact (below_size (by repeat (first | (with_reducible first | exact HB.out | apply bwA | apply bwN | apply bwD) | exact HB.out))) : w.heap.size ≤ gb185)); have n3_ := Aside0.mk ((by rw [hg]; exact (below_size (by repeat (first | (with_reducible first | exact HB.out | apply bwA | apply bwN | apply bwD) | exact HB.out))) : w.heap.size ≤ gb185)); clear HB; have HB := n0_; have BK185 := n1_; have GW185 := n2_; have GE185 := n3_; clear n0_ n1_ n2_ n3_; clear hb hbox hg) | ((with_reducible refine gate_dst (N := 3) rfl ?_); refine box_event ?hg (N := 3) ?hd (cs := #[.int .i64 a1_0, .int .i64 a1_1, .int .i64 a1_2]) (t := 99) ?hr ?_; (case hd => rfl); (case hg => rfl); (case hr => first | (go_simp; done) | (go_simp; rfl)); intro gb186 hg w12 hbox hb; have n0_ := Aside0.mk (blk_below (g := gb185) (o := .cells #[.int .i64 a0_0, .int .i64 a0_1, .int .i64 a0_2] 99 (0, 0)) (bvK BK185.out) hb); have n1_ := Aside0.mk (below_step (by repeat (first | (with_reducible first | exact HB.out | apply bwA | apply bwN | apply bwD | refine below_set ?_ GE185.out) | exact HB.out)) hb); have n2_ := Aside0.mk (hbox); have n3_ := Aside0.mk ((by rw [hg]; exact (below_size (by repeat (first | (with_reducible first | exact HB.out | apply bwA | apply bwN | apply bwD | refine below_set ?_ GE185.out) | exact HB.out))) : w.heap.size ≤ gb186)); have n4_ := Aside0.mk ((by rw [hg]; exact (below_size (by repeat (first | (with_reducible first | exact HB.out | apply bwA | apply bwN | apply bwD | refine below_set ?_ GE185.out) | exact HB.out))) : w.heap.size ≤ gb186)); have n5_ := Aside0.mk ((by rw [hg]; exact Nat.ne_of_lt (blk_lt (g := gb185) (o := .cells #[.int .i64 a0_0, .int .i64 a0_1, .int .i64 a0_2] 99 (0, 0)) (bvK BK185.out)) : gb185 ≠ gb186)); have n6_ := Aside0.mk ((by rw [hg]; exact Nat.ne_of_gt (blk_lt (g := gb185) (o := .cells #[.int .i64 a0_0, .int .i64 a0_1, .int .i64 a0_2] 99 (0, 0)) (bvK BK185.out)) : gb186 ≠ gb185)); clear BK185; clear HB; have BK185 := n0_; have HB := n1_; have BK186 := n2_; have GW186 := n3_; have GE186 := n4_; have NB185_186 := n5_; have NB186_185 := n6_; clear n0_ n1_ n2_ n3_ n4_ n5_ n6_; clear hb hbox hg; have hnb13 := NB185_186.out; have hnc13 := NB186_185.out; have hcz14_0 : w12.cell? ⟨gb185, 0, none⟩ = some (.int .i64 a0_0) := (blk_cell BK185.out 0).trans rfl; have hcz14_1 : w12.cell? ⟨gb185, 1, none⟩ = some (.int .i64 a0_1) := (blk_cell BK185.out 1).trans rfl; have hcz14_2 : w12.cell? ⟨gb185, 2, none⟩ = some (.int .i64 a0_2) := (blk_cell BK185.out 2).trans rfl; have hfz14_0 := blk_frozen BK185.out 0; have hfz14_1 := blk_frozen BK185.out 1; have hfz14_2 := blk_frozen BK185.out 2; have hcz15_0 : w12.cell? ⟨gb186, 0, none⟩ = some (.int .i64 a1_0) := (blk_cell BK186.out 0).trans rfl; have hcz15_1 : w12.cell? ⟨gb186, 1, none⟩ = some (.int .i64 a1_1) := (blk_cell BK186.out 1).trans rfl; have hcz15_2 : w12.cell? ⟨gb186, 2, none⟩ = some (.int .i64 a1_2) := (blk_cell BK186.out 2).trans rfl; have hfz15_0 := blk_frozen BK186.out 0; have hfz15_1 := blk_frozen BK186.out 1; have hfz15_2 := blk_frozen BK186.out 2))
    go_ret
    exact ⟨ers, by repeat (first | (with_reducible first | exact HB.out | apply bwA | apply bwN | apply bwD | refine below_set ?_ GE185.out | refine below_set ?_ GE186.out) | exact HB.out)⟩
  ·rw [if_neg c4] at H
   have c4b0 : (a0_1 == a1_1) = false := beq_eq_false_iff_ne.mpr c4
   have c4b1 : (a0_1 != a1_1) = true := bne_iff_ne.mpr c4
   obtain rfl := Option.some.inj H
   go_enter Try.func121, Try.ntmps121
   go_wp2_with (first | ((with_reducible refine gate_dst (N := 2) rfl ?_); refine box_event ?hg (N := 2) ?hd (cs := #[.int .i64 a0_0, .int .i64 a0_1, .int .i64 a0_2]) (t := 99) ?hr ?_; (case hd => rfl); (case hg => rfl); (case hr => first | (go_simp; done) | (go_simp; rfl)); intro gb185 hg w16 hbox hb; have n0_ := Aside0.mk (below_step (by repeat (first | (with_reducible first | exact HB.out | apply bwA | apply bwN | apply bwD) | exact HB.out)) hb); have n1_ := Aside0.mk (hbox); have n2_ := Aside0.mk ((by rw [hg]; exact (below_size (by repeat (first | (with_reducible first | exact HB.out | apply bwA | apply bwN | apply bwD) | exact HB.out))) : w.heap.size ≤ gb185)); have n3_ := Aside0.mk ((by rw [hg]; exact (below_size (by repeat (first | (with_reducible first | exact HB.out | apply bwA | apply bwN | apply bwD) | exact HB.out))) : w.heap.size ≤ gb185)); clear HB; have HB := n0_; have BK185 := n1_; have GW185 := n2_; have GE185 := n3_; clear n0_ n1_ n2_ n3_; clear hb hbox hg) | ((with_reducible refine gate_dst (N := 3) rfl ?_); refine box_event ?hg (N := 3) ?hd (cs := #[.int .i64 a1_0, .int .i64 a1_1, .int .i64 a1_2]) (t := 99) ?hr ?_; (case hd => rfl); (case hg => rfl); (case hr => first | (go_simp; done) | (go_simp; rfl)); intro gb186 hg w17 hbox hb; have n0_ := Aside0.mk (blk_below (g := gb185) (o := .cells #[.int .i64 a0_0, .int .i64 a0_1, .int .i64 a0_2] 99 (0, 0)) (bvK BK185.out) hb); have n1_ := Aside0.mk (below_step (by repeat (first | (with_reducible first | exact HB.out | apply bwA | apply bwN | apply bwD | refine below_set ?_ GE185.out) | exact HB.out)) hb); have n2_ := Aside0.mk (hbox); have n3_ := Aside0.mk ((by rw [hg]; exact (below_size (by repeat (first | (with_reducible first | exact HB.out | apply bwA | apply bwN | apply bwD | refine below_set ?_ GE185.out) | exact HB.out))) : w.heap.size ≤ gb186)); have n4_ := Aside0.mk ((by rw [hg]; exact (below_size (by repeat (first | (with_reducible first | exact HB.out | apply bwA | apply bwN | apply bwD | refine below_set ?_ GE185.out) | exact HB.out))) : w.heap.size ≤ gb186)); have n5_ := Aside0.mk ((by rw [hg]; exact Nat.ne_of_lt (blk_lt (g := gb185) (o := .cells #[.int .i64 a0_0, .int .i64 a0_1, .int .i64 a0_2] 99 (0, 0)) (bvK BK185.out)) : gb185 ≠ gb186)); have n6_ := Aside0.mk ((by rw [hg]; exact Nat.ne_of_gt (blk_lt (g := gb185) (o := .cells #[.int .i64 a0_0, .int .i64 a0_1, .int .i64 a0_2] 99 (0, 0)) (bvK BK185.out)) : gb186 ≠ gb185)); clear BK185; clear HB; have BK185 := n0_; have HB := n1_; have BK186 := n2_; have GW186 := n3_; have GE186 := n4_; have NB185_186 := n5_; have NB186_185 := n6_; clear n0_ n1_ n2_ n3_ n4_ n5_ n6_; clear hb hbox hg; have hnb18 := NB185_186.out; have hnc18 := NB186_185.out; have hcz19_0 : w17.cell? ⟨gb185, 0, none⟩ = some (.int .i64 a0_0) := (blk_cell BK185.out 0).trans rfl; have hcz19_1 : w17.cell? ⟨gb185, 1, none⟩ = some (.int .i64 a0_1) := (blk_cell BK185.out 1).trans rfl; have hcz19_2 : w17.cell? ⟨gb185, 2, none⟩ = some (.int .i64 a0_2) := (blk_cell BK185.out 2).trans rfl; have hfz19_0 := blk_frozen BK185.out 0; have hfz19_1 := blk_frozen BK185.out 1; have hfz19_2 := blk_frozen BK185.out 2; have hcz20_0 : w17.cell? ⟨gb186, 0, none⟩ = some (.int .i64 a1_0) := (blk_cell BK186.out 0).trans rfl; have hcz20_1 : w17.cell? ⟨gb186, 1, none⟩ = some (.int .i64 a1_1) := (blk_cell BK186.out 1).trans rfl; have hcz20_2 : w17.cell? ⟨gb186, 2, none⟩ = some (.int .i64 a1_2) := (blk_cell BK186.out 2).trans rfl; have hfz20_0 := blk_frozen BK186.out 0; have hfz20_1 := blk_frozen BK186.out 1; have hfz20_2 := blk_frozen BK186.out 2))
   go_ret
   exact ⟨ers, by repeat (first | (with_reducible first | exact HB.out | apply bwA | apply bwN | apply bwD | refine below_set ?_ GE185.out | refine below_set ?_ GE186.out) | exact HB.out)⟩
 ·rw [if_neg c3] at H
  have c3b0 : (a0_0 == a1_0) = false := beq_eq_false_iff_ne.mpr c3
  have c3b1 : (a0_0 != a1_0) = true := bne_iff_ne.mpr c3
  obtain rfl := Option.some.inj H
  go_enter Try.func121, Try.ntmps121
  go_wp2_with (first | ((with_reducible refine gate_dst (N := 2) rfl ?_); refine box_event ?hg (N := 2) ?hd (cs := #[.int .i64 a0_0, .int .i64 a0_1, .int .i64 a0_2]) (t := 99) ?hr ?_; (case hd => rfl); (case hg => rfl); (case hr => first | (go_simp; done) | (go_simp; rfl)); intro gb185 hg w21 hbox hb; have n0_ := Aside0.mk (below_step (by repeat (first | (with_reducible first | exact HB.out | apply bwA | apply bwN | apply bwD) | exact HB.out)) hb); have n1_ := Aside0.mk (hbox); have n2_ := Aside0.mk ((by rw [hg]; exact (below_size (by repeat (first | (with_reducible first | exact HB.out | apply bwA | apply bwN | apply bwD) | exact HB.out))) : w.heap.size ≤ gb185)); have n3_ := Aside0.mk ((by rw [hg]; exact (below_size (by repeat (first | (with_reducible first | exact HB.out | apply bwA | apply bwN | apply bwD) | exact HB.out))) : w.heap.size ≤ gb185)); clear HB; have HB := n0_; have BK185 := n1_; have GW185 := n2_; have GE185 := n3_; clear n0_ n1_ n2_ n3_; clear hb hbox hg) | ((with_reducible refine gate_dst (N := 3) rfl ?_); refine box_event ?hg (N := 3) ?hd (cs := #[.int .i64 a1_0, .int .i64 a1_1, .int .i64 a1_2]) (t := 99) ?hr ?_; (case hd => rfl); (case hg => rfl); (case hr => first | (go_simp; done) | (go_simp; rfl)); intro gb186 hg w22 hbox hb; have n0_ := Aside0.mk (blk_below (g := gb185) (o := .cells #[.int .i64 a0_0, .int .i64 a0_1, .int .i64 a0_2] 99 (0, 0)) (bvK BK185.out) hb); have n1_ := Aside0.mk (below_step (by repeat (first | (with_reducible first | exact HB.out | apply bwA | apply bwN | apply bwD | refine below_set ?_ GE185.out) | exact HB.out)) hb); have n2_ := Aside0.mk (hbox); have n3_ := Aside0.mk ((by rw [hg]; exact (below_size (by repeat (first | (with_reducible first | exact HB.out | apply bwA | apply bwN | apply bwD | refine below_set ?_ GE185.out) | exact HB.out))) : w.heap.size ≤ gb186)); have n4_ := Aside0.mk ((by rw [hg]; exact (below_size (by repeat (first | (with_reducible first | exact HB.out | apply bwA | apply bwN | apply bwD | refine below_set ?_ GE185.out) | exact HB.out))) : w.heap.size ≤ gb186)); have n5_ := Aside0.mk ((by rw [hg]; exact Nat.ne_of_lt (blk_lt (g := gb185) (o := .cells #[.int .i64 a0_0, .int .i64 a0_1, .int .i64 a0_2] 99 (0, 0)) (bvK BK185.out)) : gb185 ≠ gb186)); have n6_ := Aside0.mk ((by rw [hg]; exact Nat.ne_of_gt (blk_lt (g := gb185) (o := .cells #[.int .i64 a0_0, .int .i64 a0_1, .int .i64 a0_2] 99 (0, 0)) (bvK BK185.out)) : gb186 ≠ gb185)); clear BK185; clear HB; have BK185 := n0_; have HB := n1_; have BK186 := n2_; have GW186 := n3_; have GE186 := n4_; have NB185_186 := n5_; have NB186_185 := n6_; clear n0_ n1_ n2_ n3_ n4_ n5_ n6_; clear hb hbox hg; have hnb23 := NB185_186.out; have hnc23 := NB186_185.out; have hcz24_0 : w22.cell? ⟨gb185, 0, none⟩ = some (.int .i64 a0_0) := (blk_cell BK185.out 0).trans rfl; have hcz24_1 : w22.cell? ⟨gb185, 1, none⟩ = some (.int .i64 a0_1) := (blk_cell BK185.out 1).trans rfl; have hcz24_2 : w22.cell? ⟨gb185, 2, none⟩ = some (.int .i64 a0_2) := (blk_cell BK185.out 2).trans rfl; have hfz24_0 := blk_frozen BK185.out 0; have hfz24_1 := blk_frozen BK185.out 1; have hfz24_2 := blk_frozen BK185.out 2; have hcz25_0 : w22.cell? ⟨gb186, 0, none⟩ = some (.int .i64 a1_0) := (blk_cell BK186.out 0).trans rfl; have hcz25_1 : w22.cell? ⟨gb186, 1, none⟩ = some (.int .i64 a1_1) := (blk_cell BK186.out 1).trans rfl; have hcz25_2 : w22.cell? ⟨gb186, 2, none⟩ = some (.int .i64 a1_2) := (blk_cell BK186.out 2).trans rfl; have hfz25_0 := blk_frozen BK186.out 0; have hfz25_1 := blk_frozen BK186.out 1; have hfz25_2 := blk_frozen BK186.out 2))
  go_ret
  exact ⟨ers, by repeat (first | (with_reducible first | exact HB.out | apply bwA | apply bwN | apply bwD | refine below_set ?_ GE185.out | refine below_set ?_ GE186.out) | exact HB.out)⟩

end Go.Proofs.Ytpfkgmcbogcmoaa.QFnExactRulesSet
