-- Written by a program of this session (mk.py). Lean checks it.
import Derived.Test.YtpcckoljocpchaaQFnExactReorderedx0
import Derived.Test.YtpcckoljocpchaaQFnExactReorderedx9
namespace Go.Proofs.Ytpcckoljocpchaa.QFnExactReordered
open Go.RowKit Go.Proofs.YtpcckoljocpchaaW.PrintWords Go.Proofs.YtpcckoljocpchaaW.PrintLast Go.Proofs.YtpcckoljocpchaaW.PrintMore
attribute [local go_sem] max2_int min2_int max_two min_two max_three min_three max_four min_four   -- for this text's walks alone
set_option linter.unusedVariables false
set_option linter.unusedSimpArgs false

/-! ### laws_toForkS: function 96 -/
def laws_toForkS.l0 : Nat → List (S138) → List (S56) → Int → Option ((List (S56)))
 | 0, _, _, _ => none
 | k + 1, x0, x3, x4 => if x4 < (x0.length : Int) then (if 0 ≤ x4 then ((laws_toFork.f ((rd_T138 x0 x4).f0) ((rd_T138 x0 x4).f1) ((rd_T138 x0 x4).f2)).bind fun bt212 => (if x4 < (x3.length : Int) then (laws_toForkS.l0 k x0 (x3.set (x4 : Int).toNat (⟨bt212.1, bt212.2.1, bt212.2.2⟩ : S56)) (wrap64 (x4 + 1))) else (none))) else (none)) else (some x3)
def laws_toForkS.f (k : Nat) (l0 : List (S138)) : Option ((List (S56))) := if 0 ≤ (l0.length : Int) then (if ((l0.length : Int) : Int).toNat ≤ 11728124029610 then (laws_toForkS.l0 k l0 (List.replicate ((l0.length : Int) : Int).toNat z56) 0) else (none)) else (none)
theorem laws_toForkS.mono_l : ∀ k, (∀ y0 y1 y2, LeO (laws_toForkS.l0 k y0 y1 y2) (laws_toForkS.l0 (k + 1) y0 y1 y2))
 | 0 => fun _ _ _ r h => by simp [laws_toForkS.l0] at h
 | k + 1 => by
  have ih0 := laws_toForkS.mono_l k
  ·intro y0 y1 y2
   unfold laws_toForkS.l0
   repeat' first
   | (with_reducible exact ih0 _ _ _)
   | (with_reducible exact LeO.refl _)
   | (with_reducible exact LeO.none _)
   | (with_reducible refine LeO.ite ?_ ?_)
   | (with_reducible refine LeO.bind ?_ (fun _ => ?_))
   | exact ih0 _ _ _
   | exact LeO.none _
   | refine LeO.ite ?_ ?_
   | refine LeO.bind ?_ (fun _ => ?_)
theorem laws_toForkS.mono : ∀ a0 k, LeO (laws_toForkS.f k a0) (laws_toForkS.f (k + 1) a0) := by
 intro a0 k
 have ih0 := laws_toForkS.mono_l k
 unfold laws_toForkS.f
 repeat' first
   | (with_reducible exact ih0 _ _ _)
   | (with_reducible exact LeO.refl _)
   | (with_reducible exact LeO.none _)
   | (with_reducible refine LeO.ite ?_ ?_)
   | (with_reducible refine LeO.bind ?_ (fun _ => ?_))
   | exact ih0 _ _ _
   | exact LeO.none _
   | refine LeO.ite ?_ ?_
   | refine LeO.bind ?_ (fun _ => ?_)
set_option maxHeartbeats 8000000 in
set_option maxRecDepth 100000 in
theorem laws_toForkS.calls (k : Nat) (A0 : Option Addr) (c0 : Nat) (l0 : List (S138)) (r : List (S56)) (w : World) (hr0 : Kd.C k138 w A0 l0.length l0) (hc0 : l0.length ≤ c0) (h : laws_toForkS.f k l0 = some r) :
  Calls Try.prog 96 #[.slice A0 l0.length c0] w fun e w' => ∃ v0_ : Value, e = .returned (v0_) ∧ Kd.R k56 56 w' w.heap.size (fun _ => True) v0_ r ∧ Below w.heap.size w w' := by
 have hu138 := Try.underlying138
 have hu56 := Try.underlying56
 have HR0 := Aside0.mk hr0
 have HC0 := Aside0.mk hc0
 clear hr0 hc0
 have HB := Aside0.mk (Below.refl w.heap.size w)
 have H : (if 0 ≤ (l0.length : Int) then (if ((l0.length : Int) : Int).toNat ≤ 11728124029610 then (laws_toForkS.l0 k l0 (List.replicate ((l0.length : Int) : Int).toNat z56) 0) else (none)) else (none)) = some r := h
 clear h
 by_cases c2 : 0 ≤ (l0.length : Int)
 ·rw [if_pos c2] at H
  have c2b0 := eq_true c2
  have c2b1 : decide (0 ≤ (l0.length : Int)) = true := decide_eq_true c2
  clear c2
  by_cases c3 : ((l0.length : Int) : Int).toNat ≤ 11728124029610
  ·rw [if_pos c3] at H
   have c3b0 := eq_true c3
   have c3b1 : decide (((l0.length : Int) : Int).toNat ≤ 11728124029610) = true := decide_eq_true c3
   clear c3
   obtain ⟨y208, hy208⟩ : ∃ y_ : List (S56), y_ = (List.replicate ((l0.length : Int) : Int).toNat z56) := ⟨_, rfl⟩
   replace H : (laws_toForkS.l0 k l0 y208 0) = some r := by first | (rw [hy208]; with_reducible exact H) | (have H2_ := (Option.bind_some _ _).symm.trans H; rw [hy208]; with_reducible exact H2_) | (have H2_ := (Option.bind_some _ _).symm.trans H; with_reducible exact H2_) | with_reducible exact H | (rw [hy208]; exact H) | exact H
   have Ny208 := Aside0.mk hy208
   clear hy208
   have H' := Aside0.mk H
   clear H
   go_enter Try.func96, Try.ntmps96
   go_wp2_with (first | ((with_reducible refine gate_dst (N := 7) rfl ?_); refine Kd.R_make k56 _ 56 rfl (N := 7) rfl 46 _ _ rfl (l0.length : Int) rfl rfl Try.underlying46 (.agg #[(.int .i64 0), (.int .i64 0), (.int .i64 0)]) 24 info56 rfl (by decide) (by omega) z56 (ok := fun _ => True) (okp := fun _ => True) (k56_mkM _ _ _ z56 ) (fun _ hk => hk) trivial (of_decide_eq_true (by first | (with_reducible assumption) | assumption)) (Nat.le_trans (Nat.mul_le_mul_right _ (of_decide_eq_true (by first | (with_reducible assumption) | assumption) : (l0.length : Int).toNat ≤ 11728124029610)) (by omega)) (Below.refl _ _) (Nat.le_refl _) ?_; intro v209 w4 ho5 hb hg_ hnew_; clear hg_ hnew_; (first | rw [← Ny208.out] at ho5 | (simp only [Int.reduceToNat] at ho5; rw [← Ny208.out] at ho5)); have n0_ := Aside0.mk (Kd.R_lower ho5 (below_size (by repeat (first | (with_reducible first | exact HB.out | apply bwA | apply bwN | apply bwD) | exact HB.out)))); have n1_ := Aside0.mk (below_step (by repeat (first | (with_reducible first | exact HB.out | apply bwA | apply bwN | apply bwD) | exact HB.out)) hb); clear HB; have HO210 := n0_; have HB := n1_; clear n0_ n1_; clear hb ho5))
   go_loopg [4] k (fun kq v4 w' => ∃ (x3_1 : List (S56)) (x4_1 : Int), v4 = .int .i64 x4_1 ∧ Aside0 (laws_toForkS.l0 kq l0 x3_1 x4_1 = some r) ∧ Aside0 (kq ≤ k) ∧ Aside0 (Kd.R k56 56 w' w.heap.size (fun _ => True) v209 x3_1) ∧ Aside0 (Below w.heap.size w w'))
   case atStart => exact ⟨(y208), (0), (by first | rfl | (simp; done) | (simp [*]; done)), H', ⟨Nat.le_refl _⟩, ⟨by (with_reducible repeat (first | apply Kd.R_alloc | apply Kd.R_drewN | apply Kd.R_drew)); exact HO210.out⟩, ⟨by repeat (first | (with_reducible first | exact HB.out | apply bwA | apply bwN | apply bwD) | exact HB.out)⟩⟩
   case round =>
    clear H'
    try clear c2
    try clear c2b0
    try clear c2b1
    try clear p2
    try clear c3
    try clear c3b0
    try clear c3b1
    obtain ⟨x3_1, x4_1, rfl, HA, HK1, HO_3, HB⟩ := hrel
    cases gk with
    | zero => exact absurd HA.out (by simp [laws_toForkS.l0])
    | succ k1 =>
     have H := HA.out
     clear HA
     simp only [laws_toForkS.l0] at H
     by_cases c6 : x4_1 < (l0.length : Int)
     ·rw [if_pos c6] at H
      have c6b0 : decide (x4_1 < (l0.length : Int)) = true := decide_eq_true c6
      clear c6
      by_cases c7 : 0 ≤ x4_1
      ·rw [if_pos c7] at H
       have c7b0 : decide (0 ≤ x4_1) = true := decide_eq_true c7
       clear c7
       replace H := Option.bind_eq_some_iff.mp H
       obtain ⟨⟨t212, t213, t214⟩, A80, H⟩ := H
       replace H : (if x4_1 < (x3_1.length : Int) then (laws_toForkS.l0 k1 l0 (x3_1.set (x4_1 : Int).toNat (⟨t212, t213, t214⟩ : S56)) (wrap64 (x4_1 + 1))) else (none)) = some r := H
       have A8 := Aside0.mk A80
       clear A80
       by_cases c9 : x4_1 < (x3_1.length : Int)
       ·rw [if_pos c9] at H
        have c9b0 : decide (x4_1 < (x3_1.length : Int)) = true := decide_eq_true c9
        clear c9
        obtain ⟨y215, hy215⟩ : ∃ y_ : List (S56), y_ = (x3_1.set (x4_1 : Int).toNat (⟨t212, t213, t214⟩ : S56)) := ⟨_, rfl⟩
        replace H : (laws_toForkS.l0 k1 l0 y215 (wrap64 (x4_1 + 1))) = some r := by first | (rw [hy215]; with_reducible exact H) | (have H2_ := (Option.bind_some _ _).symm.trans H; rw [hy215]; with_reducible exact H2_) | (have H2_ := (Option.bind_some _ _).symm.trans H; with_reducible exact H2_) | with_reducible exact H | (rw [hy215]; exact H) | exact H
        have Ny215 := Aside0.mk hy215
        clear hy215
        have H' := Aside0.mk H
        clear H
        have p211 : 0 ≤ (x4_1 : Int) := of_decide_eq_true (by first | (with_reducible assumption) | assumption)
        have q211 : x4_1 < (l0.length : Int) := of_decide_eq_true (by first | (with_reducible assumption) | assumption)
        obtain ⟨ad211, e211, hx211_0, hx211_1, hx211_2⟩ := at_T138 HR0.out x4_1 p211 q211
        cases e211
        try replace hx211_0 := (HB.out.cell (World.block_lt_of_cell? w _ hx211_0)).trans hx211_0
        try replace hx211_1 := (HB.out.cell (World.block_lt_of_cell? w _ hx211_1)).trans hx211_1
        try replace hx211_2 := (HB.out.cell (World.block_lt_of_cell? w _ hx211_2)).trans hx211_2
        replace p211 := eq_true p211
        replace q211 := eq_true q211
        go_wp2_with (first | ((with_reducible refine gate_callee (f := 131) rfl ?_); refine goesL_ (some 20) rfl rfl Try.func131 (by kernel_rfl) rfl #[.agg #[.int .i64 ((rd_T138 l0 x4_1).f0), .int .i64 ((rd_T138 l0 x4_1).f1), .int .i64 ((rd_T138 l0 x4_1).f2)]] rfl (by (try simp only [List.map_toArray, List.map_cons, List.map_nil]); first | done | rfl | (simp only [List.length_drop, List.length_take]; rfl)) ?_; (with_reducible refine (laws_toFork.calls ((rd_T138 l0 x4_1).f0) ((rd_T138 l0 x4_1).f1) ((rd_T138 l0 x4_1).f2) t212 t213 t214 _ A8.out).mono ?_); rintro e w11 ⟨rfl, hb⟩; refine ⟨_, rfl, ?_⟩; have n0_ := Aside0.mk (Kd.R_below (by (with_reducible repeat (first | apply Kd.R_alloc | apply Kd.R_drewN | apply Kd.R_drew)); exact HO_3.out) hb); have n1_ := Aside0.mk (below_step (by repeat (first | (with_reducible first | exact HB.out | apply bwA | apply bwN | apply bwD) | exact HB.out)) hb); clear HO_3; clear HB; have HO_3 := n0_; have HB := n1_; clear n0_ n1_; (try clear hb); (try clear hb2); (try clear hk); (try clear hi); have p10 : 0 ≤ (x4_1 : Int) := of_decide_eq_true (by first | (with_reducible assumption) | assumption); have q10 : (x4_1 : Int) < ((x3_1.length : Int) : Int) := of_decide_eq_true (by first | (with_reducible assumption) | assumption); obtain ⟨go10, co10, eo10, gb10, gl10, cl10, HG10⟩ := Kd.R_form HO_3.out (by omega); (first | cases eo10 | (injection eo10 with ea_ en_ ec_; (first | subst ea_ | (injection ea_ with ea_; subst ea_)); subst ec_; clear en_)); have GB10 := Aside0.mk gb10; have GG10 := Aside0.mk HG10; clear gb10 gl10 HG10; obtain ⟨ce10, hcl10, hM10, hcc10, hfr10⟩ := Kd.R_elem HO_3.out z56 (x4_1 : Int) p10 q10; obtain rfl := k56_openM hM10; have hx10_0 : w11.cell? ⟨go10, (x4_1 : Int).toNat * 3, none⟩ = some (.int .i64 ((rd_T56 x3_1 x4_1).f0)) := hcc10 0 _ rfl; have hx10_1 : w11.cell? ⟨go10, (x4_1 : Int).toNat * 3 + 1, none⟩ = some (.int .i64 ((rd_T56 x3_1 x4_1).f1)) := hcc10 1 _ rfl; have hx10_2 : w11.cell? ⟨go10, (x4_1 : Int).toNat * 3 + 2, none⟩ = some (.int .i64 ((rd_T56 x3_1 x4_1).f2)) := hcc10 2 _ rfl; have hf10_0 : w11.frozen? ⟨go10, (x4_1 : Int).toNat * 3, none⟩ = false := hfr10 0; have hf10_1 : w11.frozen? ⟨go10, (x4_1 : Int).toNat * 3 + 1, none⟩ = false := hfr10 1; have hf10_2 : w11.frozen? ⟨go10, (x4_1 : Int).toNat * 3 + 2, none⟩ = false := hfr10 2; clear hcl10 hcc10 hfr10; (try clear hM10); replace p10 := eq_true p10; replace q10 := eq_true q10; have HX12 := Aside0.mk (show Kd.R k56 56 w11 w.heap.size (fun _ => True) (.slice (some ⟨go10, 0, none⟩) x3_1.length co10) x3_1 from (by (with_reducible repeat (first | apply Kd.R_alloc | apply Kd.R_drewN | apply Kd.R_drew)); exact HO_3.out)); obtain ⟨ce12, hcl12, hM12, hcc12, hfr12⟩ := Kd.R_elem HX12.out z56 (x4_1 : Int) (of_decide_eq_true (by first | (with_reducible assumption) | assumption)) (by have h_ : (x4_1 : Int) < ((x3_1.length : Int) : Int) := of_decide_eq_true (by first | (with_reducible assumption) | assumption); first | exact h_ | (have e_ := (Kd.R_reads' HO_3.out).1; omega) | simpa using h_); obtain rfl := k56_openM hM12; have HP12 := Kd.R_seg HX12.out (x4_1 : Int) (of_decide_eq_true (by first | (with_reducible assumption) | assumption)) (by have h_ : (x4_1 : Int) < ((x3_1.length : Int) : Int) := of_decide_eq_true (by first | (with_reducible assumption) | assumption); first | exact h_ | (have e_ := (Kd.R_reads' HO_3.out).1; omega) | simpa using h_) (seg := [.int .i64 t212, .int .i64 t213, .int .i64 t214]) (j := 0) hcl12 hcc12 (show 3 ≤ 3 from by decide) (x' := (⟨t212, t213, t214⟩ : S56)) (k56_mkM _ _ _ (⟨t212, t213, t214⟩ : S56) ) (fun _ hk => hk); have hx12_0 := hcc12 0 _ rfl; (try simp only [show (k56).sz = 3 from rfl, Nat.mul_one, Nat.add_zero] at hx12_0); have hf12_0 := hfr12 0; (try simp only [show (k56).sz = 3 from rfl, Nat.mul_one, Nat.add_zero] at hf12_0); have hx12_1 := hcc12 1 _ rfl; (try simp only [show (k56).sz = 3 from rfl, Nat.mul_one, Nat.add_zero] at hx12_1); have hf12_1 := hfr12 1; (try simp only [show (k56).sz = 3 from rfl, Nat.mul_one, Nat.add_zero] at hf12_1); have hx12_2 := hcc12 2 _ rfl; (try simp only [show (k56).sz = 3 from rfl, Nat.mul_one, Nat.add_zero] at hx12_2); have hf12_2 := hfr12 2; (try simp only [show (k56).sz = 3 from rfl, Nat.mul_one, Nat.add_zero] at hf12_2); clear hcl12 hcc12 hfr12; (try clear hM12)) | ((with_reducible refine gate_store (t := 56) (p := 21) rfl ?_); refine store_event (t := 56) (p := 21) (v := ?vo_w13) (w1 := (((w11.setCell ⟨go10, (x4_1 : Int).toNat * 3, none⟩ (.int .i64 t212)).setCell ⟨go10, (x4_1 : Int).toNat * 3 + 1, none⟩ (.int .i64 t213)).setCell ⟨go10, (x4_1 : Int).toNat * 3 + 2, none⟩ (.int .i64 t214))) ?hg ?ho ?hn ?hr ?_; (case ho => rfl); (case hg => rfl); (case hn => rfl); (case hr => first | (go_simp; done) | (go_simp; rfl)); intro w13 hw; have hg : w11.grownBy w13 (some go10) := (by rw [hw]; exact HP12.2); have hp_ : Kd.R k56 56 w13 w.heap.size (fun _ => True) (.slice (some ⟨go10, 0, none⟩) x3_1.length co10) y215 := (by rw [hw, Ny215.out]; exact HP12.1); clear HP12; have n0_ := Aside0.mk (hp_); have n1_ := Aside0.mk ((by rw [hw]; exact below_set (below_set (below_set (HB.out) GB10.out) GB10.out) GB10.out : Below w.heap.size w w13)); clear HO_3; clear HB; have HO_3 := n0_; have HB := n1_; clear n0_ n1_; clear hg hw hp_))
        go_roundg k1
        case measure => have := HK1.out; omega
        case rel => exact ⟨(y215), (wrap64 (x4_1 + 1)), (by first | rfl | (simp; done) | (simp [*]; done)), H', ⟨by have := HK1.out; omega⟩, ⟨by (with_reducible repeat (first | apply Kd.R_alloc | apply Kd.R_drewN | apply Kd.R_drew)); exact HO_3.out⟩, ⟨by repeat (first | (with_reducible first | exact HB.out | apply bwA | apply bwN | apply bwD) | exact HB.out)⟩⟩
       ·rw [if_neg c9] at H
        exact absurd H (by simp)
      ·rw [if_neg c7] at H
       exact absurd H (by simp)
     ·rw [if_neg c6] at H
      have c6b0 : decide (x4_1 < (l0.length : Int)) = false := decide_eq_false c6
      clear c6
      obtain rfl := Option.some.inj H
      go_wp2
      go_ret
      exact ⟨_, by first | rfl | (simp [errW_none, errW_some] <;> rfl) | (simp [*, errW_none, errW_some] <;> rfl), by (with_reducible repeat (first | apply Kd.R_alloc | apply Kd.R_drewN | apply Kd.R_drew)); exact HO_3.out, by repeat (first | (with_reducible first | exact HB.out | apply bwA | apply bwN | apply bwD) | exact HB.out)⟩
  ·rw [if_neg c3] at H
   exact absurd H (by simp)
 ·rw [if_neg c2] at H
  exact absurd H (by simp)

/-! ### laws_toDiagram: function 38 -/
def laws_toDiagram.f (k : Nat) (a0_0 : Int) (l0_1 : List (S138)) : Option (Int × (List (S56))) := (laws_toForkS.f k l0_1).bind fun t219 => (some (a0_0, t219))
theorem laws_toDiagram.mono : ∀ a0 a1 k, LeO (laws_toDiagram.f k a0 a1) (laws_toDiagram.f (k + 1) a0 a1) := by
 intro a0 a1 k
 unfold laws_toDiagram.f
 repeat' first
   | (with_reducible exact laws_toForkS.mono _ _)
   | (with_reducible exact LeO.refl _)
   | (with_reducible exact LeO.none _)
   | (with_reducible refine LeO.ite ?_ ?_)
   | (with_reducible refine LeO.bind ?_ (fun _ => ?_))
   | exact laws_toForkS.mono _ _
   | exact LeO.none _
   | refine LeO.ite ?_ ?_
   | refine LeO.bind ?_ (fun _ => ?_)
set_option maxHeartbeats 8000000 in
set_option maxRecDepth 100000 in
theorem laws_toDiagram.calls (k : Nat) (a0_0 : Int) (A0_1 : Option Addr) (c0_1 : Nat) (l0_1 : List (S138)) (r1 : Int) (r2 : List (S56)) (w : World) (hr0_1 : Kd.C k138 w A0_1 l0_1.length l0_1) (hc0_1 : l0_1.length ≤ c0_1) (h : laws_toDiagram.f k a0_0 l0_1 = some (r1, r2)) :
  Calls Try.prog 38 #[.agg #[.int .i64 a0_0, .slice A0_1 l0_1.length c0_1]] w fun e w' => ∃ v1_ : Value, e = .returned (.agg #[.int .i64 r1, v1_]) ∧ Kd.R k56 56 w' w.heap.size (fun _ => True) v1_ r2 ∧ Below w.heap.size w w' := by
 have hu59 := Try.underlying59
 have hu48 := Try.underlying48
 have HR0_1 := Aside0.mk hr0_1
 have HC0_1 := Aside0.mk hc0_1
 clear hr0_1 hc0_1
 have HB := Aside0.mk (Below.refl w.heap.size w)
 have H : ((laws_toForkS.f k l0_1).bind fun t219 => (some (a0_0, t219))) = some (r1, r2) := h
 clear h
 replace H := Option.bind_eq_some_iff.mp H
 obtain ⟨t219, A20, H⟩ := H
 replace H : (some (a0_0, t219)) = some (r1, r2) := H
 have A2 := Aside0.mk A20
 clear A20
 simp only [Option.some.injEq, Prod.mk.injEq] at H
 obtain ⟨rfl, rfl⟩ := H
 go_enter Try.func38, Try.ntmps38
 go_wp2_with (first | ((with_reducible refine gate_dst (N := 1) rfl ?_); refine box_event ?hg (N := 1) ?hd (cs := #[.int .i64 a0_0, .slice A0_1 l0_1.length c0_1]) (t := 59) ?hr ?_; (case hd => rfl); (case hg => rfl); (case hr => first | (go_simp; done) | (go_simp; rfl)); intro gb216 hg w3 hbox hb; have n0_ := Aside0.mk (below_step (by repeat (first | (with_reducible first | exact HB.out | apply bwA | apply bwN | apply bwD) | exact HB.out)) hb); have n1_ := Aside0.mk (hbox); have n2_ := Aside0.mk ((by rw [hg]; exact (below_size (by repeat (first | (with_reducible first | exact HB.out | apply bwA | apply bwN | apply bwD) | exact HB.out))) : w.heap.size ≤ gb216)); have n3_ := Aside0.mk ((by rw [hg]; exact (below_size (by repeat (first | (with_reducible first | exact HB.out | apply bwA | apply bwN | apply bwD) | exact HB.out))) : w.heap.size ≤ gb216)); clear HB; have HB := n0_; have BK216 := n1_; have GW216 := n2_; have GE216 := n3_; clear n0_ n1_ n2_ n3_; clear hb hbox hg) | ((with_reducible refine gate_dst (N := 2) rfl ?_); refine box_event ?hg (N := 2) ?hd (cs := #[.int .i64 0, .slice none 0 0]) (t := 48) ?hr ?_; (case hd => rfl); (case hg => rfl); (case hr => first | (go_simp; done) | (go_simp; rfl)); intro gb217 hg w4 hbox hb; have n0_ := Aside0.mk (blk_below (g := gb216) (o := .cells #[.int .i64 a0_0, .slice A0_1 l0_1.length c0_1] 59 (0, 0)) (by (with_reducible repeat (first | refine blk_drewN ?_ _ | refine blk_drew ?_ | refine blk_alloc ?_ _)); exact BK216.out) hb); have n1_ := Aside0.mk (below_step (by repeat (first | (with_reducible first | exact HB.out | apply bwA | apply bwN | apply bwD | refine below_set ?_ GE216.out) | exact HB.out)) hb); have n2_ := Aside0.mk (hbox); have n3_ := Aside0.mk ((by rw [hg]; exact (below_size (by repeat (first | (with_reducible first | exact HB.out | apply bwA | apply bwN | apply bwD | refine below_set ?_ GE216.out) | exact HB.out))) : w.heap.size ≤ gb217)); have n4_ := Aside0.mk ((by rw [hg]; exact (below_size (by repeat (first | (with_reducible first | exact HB.out | apply bwA | apply bwN | apply bwD | refine below_set ?_ GE216.out) | exact HB.out))) : w.heap.size ≤ gb217)); have n5_ := Aside0.mk ((by rw [hg]; exact Nat.ne_of_lt (blk_lt (g := gb216) (o := .cells #[.int .i64 a0_0, .slice A0_1 l0_1.length c0_1] 59 (0, 0)) (by (with_reducible repeat (first | refine blk_drewN ?_ _ | refine blk_drew ?_ | refine blk_alloc ?_ _)); exact BK216.out)) : gb216 ≠ gb217)); have n6_ := Aside0.mk ((by rw [hg]; exact Nat.ne_of_gt (blk_lt (g := gb216) (o := .cells #[.int .i64 a0_0, .slice A0_1 l0_1.length c0_1] 59 (0, 0)) (by (with_reducible repeat (first | refine blk_drewN ?_ _ | refine blk_drew ?_ | refine blk_alloc ?_ _)); exact BK216.out)) : gb217 ≠ gb216)); clear BK216; clear HB; have BK216 := n0_; have HB := n1_; have BK217 := n2_; have GW217 := n3_; have GE217 := n4_; have NB216_217 := n5_; have NB217_216 := n6_; clear n0_ n1_ n2_ n3_ n4_ n5_ n6_; clear hb hbox hg) | ((with_reducible refine gate_dst (N := 3) rfl ?_); refine box_event ?hg (N := 3) ?hd (cs := #[.int .i64 0, .slice none 0 0]) (t := 48) ?hr ?_; (case hd => rfl); (case hg => rfl); (case hr => first | (go_simp; done) | (go_simp; rfl)); intro gb218 hg w5 hbox hb; have n0_ := Aside0.mk (blk_below (g := gb216) (o := .cells #[.int .i64 a0_0, .slice A0_1 l0_1.length c0_1] 59 (0, 0)) (by (with_reducible repeat (first | refine blk_drewN ?_ _ | refine blk_drew ?_ | refine blk_alloc ?_ _)); exact BK216.out) hb); have n1_ := Aside0.mk (blk_below (g := gb217) (o := .cells #[.int .i64 0, .slice none 0 0] 48 (0, 0)) (by (with_reducible repeat (first | refine blk_drewN ?_ _ | refine blk_drew ?_ | refine blk_alloc ?_ _)); exact BK217.out) hb); have n2_ := Aside0.mk (below_step (by repeat (first | (with_reducible first | exact HB.out | apply bwA | apply bwN | apply bwD | refine below_set ?_ GE216.out | refine below_set ?_ GE217.out) | exact HB.out)) hb); have n3_ := Aside0.mk (hbox); have n4_ := Aside0.mk ((by rw [hg]; exact (below_size (by repeat (first | (with_reducible first | exact HB.out | apply bwA | apply bwN | apply bwD | refine below_set ?_ GE216.out | refine below_set ?_ GE217.out) | exact HB.out))) : w.heap.size ≤ gb218)); have n5_ := Aside0.mk ((by rw [hg]; exact (below_size (by repeat (first | (with_reducible first | exact HB.out | apply bwA | apply bwN | apply bwD | refine below_set ?_ GE216.out | refine below_set ?_ GE217.out) | exact HB.out))) : w.heap.size ≤ gb218)); have n6_ := Aside0.mk ((by rw [hg]; exact Nat.ne_of_lt (blk_lt (g := gb216) (o := .cells #[.int .i64 a0_0, .slice A0_1 l0_1.length c0_1] 59 (0, 0)) (by (with_reducible repeat (first | refine blk_drewN ?_ _ | refine blk_drew ?_ | refine blk_alloc ?_ _)); exact BK216.out)) : gb216 ≠ gb218)); have n7_ := Aside0.mk ((by rw [hg]; exact Nat.ne_of_gt (blk_lt (g := gb216) (o := .cells #[.int .i64 a0_0, .slice A0_1 l0_1.length c0_1] 59 (0, 0)) (by (with_reducible repeat (first | refine blk_drewN ?_ _ | refine blk_drew ?_ | refine blk_alloc ?_ _)); exact BK216.out)) : gb218 ≠ gb216)); have n8_ := Aside0.mk ((by rw [hg]; exact Nat.ne_of_lt (blk_lt (g := gb217) (o := .cells #[.int .i64 0, .slice none 0 0] 48 (0, 0)) (by (with_reducible repeat (first | refine blk_drewN ?_ _ | refine blk_drew ?_ | refine blk_alloc ?_ _)); exact BK217.out)) : gb217 ≠ gb218)); have n9_ := Aside0.mk ((by rw [hg]; exact Nat.ne_of_gt (blk_lt (g := gb217) (o := .cells #[.int .i64 0, .slice none 0 0] 48 (0, 0)) (by (with_reducible repeat (first | refine blk_drewN ?_ _ | refine blk_drew ?_ | refine blk_alloc ?_ _)); exact BK217.out)) : gb218 ≠ gb217)); clear BK216; clear BK217; clear HB; have BK216 := n0_; have BK217 := n1_; have HB := n2_; have BK218 := n3_; have GW218 := n4_; have GE218 := n5_; have NB216_218 := n6_; have NB218_216 := n7_; have NB217_218 := n8_; have NB218_217 := n9_; clear n0_ n1_ n2_ n3_ n4_ n5_ n6_ n7_ n8_ n9_; clear hb hbox hg; have hnb6 := NB216_217.out; have hnc6 := NB217_216.out; have hnb7 := NB216_218.out; have hnc7 := NB218_216.out; have hcz8_0 : w5.cell? ⟨gb216, 0, none⟩ = some (.int .i64 a0_0) := (blk_cell BK216.out 0).trans rfl; have hcz8_1 : w5.cell? ⟨gb216, 1, none⟩ = some (.slice A0_1 l0_1.length c0_1) := (blk_cell BK216.out 1).trans rfl; have hfz8_0 := blk_frozen BK216.out 0; have hfz8_1 := blk_frozen BK216.out 1; have hnb9 := NB218_217.out; have hnc9 := NB217_218.out; have hcz10_0 : w5.cell? ⟨gb218, 0, none⟩ = some (.int .i64 0) := (blk_cell BK218.out 0).trans rfl; have hcz10_1 : w5.cell? ⟨gb218, 1, none⟩ = some (.slice none 0 0) := (blk_cell BK218.out 1).trans rfl; have hfz10_0 := blk_frozen BK218.out 0; have hfz10_1 := blk_frozen BK218.out 1) | ((with_reducible refine gate_callee (f := 96) rfl ?_); refine goesL_ (some 9) rfl rfl Try.func96 (by kernel_rfl) rfl #[.slice A0_1 l0_1.length c0_1] rfl (by (try simp only [List.map_toArray, List.map_cons, List.map_nil]); first | done | rfl | (simp only [List.length_drop, List.length_take]; rfl)) ?_; (with_reducible refine (laws_toForkS.calls k _ _ l0_1 t219 _ ?side1 ?side2 A2.out).mono ?_); (case side1 => exact Kd.C_below HR0_1.out (by repeat (first | (with_reducible first | exact HB.out | apply bwA | apply bwN | apply bwD | refine below_set ?_ GE216.out | refine below_set ?_ GE217.out | refine below_set ?_ GE218.out) | exact HB.out))); (case side2 => exact HC0_1.out); rintro e w11 ⟨v220, rfl, ho0, hb⟩; refine ⟨_, rfl, ?_⟩; have n0_ := Aside0.mk (Kd.R_lower ho0 (below_size (by repeat (first | (with_reducible first | exact HB.out | apply bwA | apply bwN | apply bwD | refine below_set ?_ GE216.out | refine below_set ?_ GE217.out | refine below_set ?_ GE218.out) | exact HB.out)))); have n1_ := Aside0.mk (blk_below (g := gb216) (o := .cells #[.int .i64 a0_0, .slice A0_1 l0_1.length c0_1] 59 (0, 0)) (by (with_reducible repeat (first | refine blk_drewN ?_ _ | refine blk_drew ?_ | refine blk_alloc ?_ _)); refine blk_far ?_ NB216_218.out _; (with_reducible repeat (first | refine blk_drewN ?_ _ | refine blk_drew ?_ | refine blk_alloc ?_ _)); exact BK216.out) hb); have n2_ := Aside0.mk (blk_below (g := gb217) (o := .cells #[.int .i64 0, .slice none 0 0] 48 (0, 0)) (by (with_reducible repeat (first | refine blk_drewN ?_ _ | refine blk_drew ?_ | refine blk_alloc ?_ _)); refine blk_far ?_ NB217_218.out _; (with_reducible repeat (first | refine blk_drewN ?_ _ | refine blk_drew ?_ | refine blk_alloc ?_ _)); exact BK217.out) hb); have n3_ := Aside0.mk (blk_below (g := gb218) (o := .cells #[.int .i64 a0_0, .slice none 0 0] 48 (0, 0)) (by (with_reducible repeat (first | refine blk_drewN ?_ _ | refine blk_drew ?_ | refine blk_alloc ?_ _)); refine blk_put (cs := #[.int .i64 0, .slice none 0 0]) ?_ 0 _ rfl; (with_reducible repeat (first | refine blk_drewN ?_ _ | refine blk_drew ?_ | refine blk_alloc ?_ _)); exact BK218.out) hb); have n4_ := Aside0.mk (below_step (by repeat (first | (with_reducible first | exact HB.out | apply bwA | apply bwN | apply bwD | refine below_set ?_ GE216.out | refine below_set ?_ GE217.out | refine below_set ?_ GE218.out) | exact HB.out)) hb); clear BK216; clear BK217; clear BK218; clear HB; have HO221 := n0_; have BK216 := n1_; have BK217 := n2_; have BK218 := n3_; have HB := n4_; clear n0_ n1_ n2_ n3_ n4_; (try clear hb); (try clear hb2); (try clear hk); (try clear hi); (try clear ho0); obtain ⟨Ao12, co12, eo12⟩ := Kd.R_slice HO221.out; subst eo12; have hcz13_0 : w11.cell? ⟨gb218, 0, none⟩ = some (.int .i64 a0_0) := (blk_cell BK218.out 0).trans rfl; have hcz13_1 : w11.cell? ⟨gb218, 1, none⟩ = some (.slice none 0 0) := (blk_cell BK218.out 1).trans rfl; have hfz13_0 := blk_frozen BK218.out 0; have hfz13_1 := blk_frozen BK218.out 1; have hcz14_0 : w11.cell? ⟨gb217, 0, none⟩ = some (.int .i64 0) := (blk_cell BK217.out 0).trans rfl; have hcz14_1 : w11.cell? ⟨gb217, 1, none⟩ = some (.slice none 0 0) := (blk_cell BK217.out 1).trans rfl; have hfz14_0 := blk_frozen BK217.out 0; have hfz14_1 := blk_frozen BK217.out 1))
 refine bodyPost_ret (results_cell_row rfl _ _ gb217 48 #[.int .i64 a0_0, .slice Ao12 t219.length co12] (0, 0) _ rfl (by (with_reducible repeat (first | refine blk_drewN ?_ _ | refine blk_drew ?_ | refine blk_alloc ?_ _)); refine blk_put (cs := #[.int .i64 a0_0, .slice none 0 0]) ?_ 1 _ rfl; (with_reducible repeat (first | refine blk_drewN ?_ _ | refine blk_drew ?_ | refine blk_alloc ?_ _)); refine blk_put (cs := #[.int .i64 0, .slice none 0 0]) ?_ 0 _ rfl; (with_reducible repeat (first | refine blk_drewN ?_ _ | refine blk_drew ?_ | refine blk_alloc ?_ _)); refine blk_far ?_ NB217_218.out _; (with_reducible repeat (first | refine blk_drewN ?_ _ | refine blk_drew ?_ | refine blk_alloc ?_ _)); exact BK217.out) Try.underlying48 rfl (by kernel_rfl)) rfl ?_
 exact ⟨_, by first | rfl | (simp [errW_none, errW_some] <;> rfl) | (simp [*, errW_none, errW_some] <;> rfl), by (with_reducible repeat (first | apply Kd.R_alloc | apply Kd.R_drewN | apply Kd.R_drew)); exact Kd.R_mono (Kd.R_far (p := ⟨gb217, 1, none⟩) (Kd.R_far (p := ⟨gb217, 0, none⟩) (Kd.R_far (p := ⟨gb218, 1, none⟩) (Kd.R_types (Kd.R_types HO221.out BK218.out (by decide)) BK217.out (by decide)) (fun _ hk => hk.1.2) (.slice Ao12 t219.length co12)) (fun _ hk => hk.2) (.int .i64 a0_0)) (fun _ hk => hk.2) (.slice Ao12 t219.length co12)) (fun _ hk => trivial), by repeat (first | (with_reducible first | exact HB.out | apply bwA | apply bwN | apply bwD | refine below_set ?_ GE216.out | refine below_set ?_ GE217.out | refine below_set ?_ GE218.out) | exact HB.out)⟩

/-! ### laws_eqFork: function 132 -/
def laws_eqFork.f (a0_0 : Int) (a0_1 : Int) (a0_2 : Int) (a1_0 : Int) (a1_1 : Int) (a1_2 : Int) : Option (Bool) := if a0_0 = a1_0 then (if a0_1 = a1_1 then (if a0_2 = a1_2 then (some true) else (some false)) else (some false)) else (some false)
set_option maxHeartbeats 8000000 in
set_option maxRecDepth 100000 in
theorem laws_eqFork.calls (a0_0 : Int) (a0_1 : Int) (a0_2 : Int) (a1_0 : Int) (a1_1 : Int) (a1_2 : Int) (r : Bool) (w : World) (h : laws_eqFork.f a0_0 a0_1 a0_2 a1_0 a1_1 a1_2 = some r) :
  Calls Try.prog 132 #[.agg #[.int .i64 a0_0, .int .i64 a0_1, .int .i64 a0_2], .agg #[.int .i64 a1_0, .int .i64 a1_1, .int .i64 a1_2]] w fun e w' => e = .returned (.bool r) ∧ Below w.heap.size w w' := by
 have hu56 := Try.underlying56
 have HB := Aside0.mk (Below.refl w.heap.size w)
 have H : (if a0_0 = a1_0 then (if a0_1 = a1_1 then (if a0_2 = a1_2 then (some true) else (some false)) else (some false)) else (some false)) = some r := h
 clear h
 by_cases c3 : a0_0 = a1_0
 ·rw [if_pos c3] at H
  have c3b0 : (a0_0 == a1_0) = true := beq_iff_eq.mpr c3
  have c3b1 : (a0_0 != a1_0) = false := bne_eq_false_iff_eq.mpr c3
  clear c3
  by_cases c4 : a0_1 = a1_1
  ·rw [if_pos c4] at H
   have c4b0 : (a0_1 == a1_1) = true := beq_iff_eq.mpr c4
   have c4b1 : (a0_1 != a1_1) = false := bne_eq_false_iff_eq.mpr c4
   clear c4
   by_cases c5 : a0_2 = a1_2
   ·rw [if_pos c5] at H
    have c5b0 : (a0_2 == a1_2) = true := beq_iff_eq.mpr c5
    have c5b1 : (a0_2 != a1_2) = false := bne_eq_false_iff_eq.mpr c5
    clear c5
    obtain rfl := Option.some.inj H
    go_enter Try.func132, Try.ntmps132
    go_wp2_with (first | ((with_reducible refine gate_dst (N := 2) rfl ?_); refine box_event ?hg (N := 2) ?hd (cs := #[.int .i64 a0_0, .int .i64 a0_1, .int .i64 a0_2]) (t := 56) ?hr ?_; (case hd => rfl); (case hg => rfl); (case hr => first | (go_simp; done) | (go_simp; rfl)); intro gb222 hg w6 hbox hb; have n0_ := Aside0.mk (below_step (by repeat (first | (with_reducible first | exact HB.out | apply bwA | apply bwN | apply bwD) | exact HB.out)) hb); have n1_ := Aside0.mk (hbox); have n2_ := Aside0.mk ((by rw [hg]; exact (below_size (by repeat (first | (with_reducible first | exact HB.out | apply bwA | apply bwN | apply bwD) | exact HB.out))) : w.heap.size ≤ gb222)); have n3_ := Aside0.mk ((by rw [hg]; exact (below_size (by repeat (first | (with_reducible first | exact HB.out | apply bwA | apply bwN | apply bwD) | exact HB.out))) : w.heap.size ≤ gb222)); clear HB; have HB := n0_; have BK222 := n1_; have GW222 := n2_; have GE222 := n3_; clear n0_ n1_ n2_ n3_; clear hb hbox hg) | ((with_reducible refine gate_dst (N := 3) rfl ?_); refine box_event ?hg (N := 3) ?hd (cs := #[.int .i64 a1_0, .int .i64 a1_1, .int .i64 a1_2]) (t := 56) ?hr ?_; (case hd => rfl); (case hg => rfl); (case hr => first | (go_simp; done) | (go_simp; rfl)); intro gb223 hg w7 hbox hb; have n0_ := Aside0.mk (blk_below (g := gb222) (o := .cells #[.int .i64 a0_0, .int .i64 a0_1, .int .i64 a0_2] 56 (0, 0)) (by (with_reducible repeat (first | refine blk_drewN ?_ _ | refine blk_drew ?_ | refine blk_alloc ?_ _)); exact BK222.out) hb); have n1_ := Aside0.mk (below_step (by repeat (first | (with_reducible first | exact HB.out | apply bwA | apply bwN | apply bwD | refine below_set ?_ GE222.out) | exact HB.out)) hb); have n2_ := Aside0.mk (hbox); have n3_ := Aside0.mk ((by rw [hg]; exact (below_size (by repeat (first | (with_reducible first | exact HB.out | apply bwA | apply bwN | apply bwD | refine below_set ?_ GE222.out) | exact HB.out))) : w.heap.size ≤ gb223)); have n4_ := Aside0.mk ((by rw [hg]; exact (below_size (by repeat (first | (with_reducible first | exact HB.out | apply bwA | apply bwN | apply bwD | refine below_set ?_ GE222.out) | exact HB.out))) : w.heap.size ≤ gb223)); have n5_ := Aside0.mk ((by rw [hg]; exact Nat.ne_of_lt (blk_lt (g := gb222) (o := .cells #[.int .i64 a0_0, .int .i64 a0_1, .int .i64 a0_2] 56 (0, 0)) (by (with_reducible repeat (first | refine blk_drewN ?_ _ | refine blk_drew ?_ | refine blk_alloc ?_ _)); exact BK222.out)) : gb222 ≠ gb223)); have n6_ := Aside0.mk ((by rw [hg]; exact Nat.ne_of_gt (blk_lt (g := gb222) (o := .cells #[.int .i64 a0_0, .int .i64 a0_1, .int .i64 a0_2] 56 (0, 0)) (by (with_reducible repeat (first | refine blk_drewN ?_ _ | refine blk_drew ?_ | refine blk_alloc ?_ _)); exact BK222.out)) : gb223 ≠ gb222)); clear BK222; clear HB; have BK222 := n0_; have HB := n1_; have BK223 := n2_; have GW223 := n3_; have GE223 := n4_; have NB222_223 := n5_; have NB223_222 := n6_; clear n0_ n1_ n2_ n3_ n4_ n5_ n6_; clear hb hbox hg; have hnb8 := NB222_223.out; have hnc8 := NB223_222.out; have hcz9_0 : w7.cell? ⟨gb222, 0, none⟩ = some (.int .i64 a0_0) := (blk_cell BK222.out 0).trans rfl; have hcz9_1 : w7.cell? ⟨gb222, 1, none⟩ = some (.int .i64 a0_1) := (blk_cell BK222.out 1).trans rfl; have hcz9_2 : w7.cell? ⟨gb222, 2, none⟩ = some (.int .i64 a0_2) := (blk_cell BK222.out 2).trans rfl; have hfz9_0 := blk_frozen BK222.out 0; have hfz9_1 := blk_frozen BK222.out 1; have hfz9_2 := blk_frozen BK222.out 2; have hcz10_0 : w7.cell? ⟨gb223, 0, none⟩ = some (.int .i64 a1_0) := (blk_cell BK223.out 0).trans rfl; have hcz10_1 : w7.cell? ⟨gb223, 1, none⟩ = some (.int .i64 a1_1) := (blk_cell BK223.out 1).trans rfl; have hcz10_2 : w7.cell? ⟨gb223, 2, none⟩ = some (.int .i64 a1_2) := (blk_cell BK223.out 2).trans rfl; have hfz10_0 := blk_frozen BK223.out 0; have hfz10_1 := blk_frozen BK223.out 1; have hfz10_2 := blk_frozen BK223.out 2))
    go_ret
    exact ⟨by first | rfl | (simp [errW_none, errW_some] <;> rfl) | (simp [*, errW_none, errW_some] <;> rfl), by repeat (first | (with_reducible first | exact HB.out | apply bwA | apply bwN | apply bwD | refine below_set ?_ GE222.out | refine below_set ?_ GE223.out) | exact HB.out)⟩
   ·rw [if_neg c5] at H
    have c5b0 : (a0_2 == a1_2) = false := beq_eq_false_iff_ne.mpr c5
    have c5b1 : (a0_2 != a1_2) = true := bne_iff_ne.mpr c5
    obtain rfl := Option.some.inj H
    go_enter Try.func132, Try.ntmps132
    go_wp2_with (first | ((with_reducible refine gate_dst (N := 2) rfl ?_); refine box_event ?hg (N := 2) ?hd (cs := #[.int .i64 a0_0, .int .i64 a0_1, .int .i64 a0_2]) (t := 56) ?hr ?_; (case hd => rfl); (case hg => rfl); (case hr => first | (go_simp; done) | (go_simp; rfl)); intro gb222 hg w11 hbox hb; have n0_ := Aside0.mk (below_step (by repeat (first | (with_reducible first | exact HB.out | apply bwA | apply bwN | apply bwD) | exact HB.out)) hb); have n1_ := Aside0.mk (hbox); have n2_ := Aside0.mk ((by rw [hg]; exact (below_size (by repeat (first | (with_reducible first | exact HB.out | apply bwA | apply bwN | apply bwD) | exact HB.out))) : w.heap.size ≤ gb222)); have n3_ := Aside0.mk ((by rw [hg]; exact (below_size (by repeat (first | (with_reducible first | exact HB.out | apply bwA | apply bwN | apply bwD) | exact HB.out))) : w.heap.size ≤ gb222)); clear HB; have HB := n0_; have BK222 := n1_; have GW222 := n2_; have GE222 := n3_; clear n0_ n1_ n2_ n3_; clear hb hbox hg) | ((with_reducible refine gate_dst (N := 3) rfl ?_); refine box_event ?hg (N := 3) ?hd (cs := #[.int .i64 a1_0, .int .i64 a1_1, .int .i64 a1_2]) (t := 56) ?hr ?_; (case hd => rfl); (case hg => rfl); (case hr => first | (go_simp; done) | (go_simp; rfl)); intro gb223 hg w12 hbox hb; have n0_ := Aside0.mk (blk_below (g := gb222) (o := .cells #[.int .i64 a0_0, .int .i64 a0_1, .int .i64 a0_2] 56 (0, 0)) (by (with_reducible repeat (first | refine blk_drewN ?_ _ | refine blk_drew ?_ | refine blk_alloc ?_ _)); exact BK222.out) hb); have n1_ := Aside0.mk (below_step (by repeat (first | (with_reducible first | exact HB.out | apply bwA | apply bwN | apply bwD | refine below_set ?_ GE222.out) | exact HB.out)) hb); have n2_ := Aside0.mk (hbox); have n3_ := Aside0.mk ((by rw [hg]; exact (below_size (by repeat (first | (with_reducible first | exact HB.out | apply bwA | apply bwN | apply bwD | refine below_set ?_ GE222.out) | exact HB.out))) : w.heap.size ≤ gb223)); have n4_ := Aside0.mk ((by rw [hg]; exact (below_size (by repeat (first | (with_reducible first | exact HB.out | apply bwA | apply bwN | apply bwD | refine below_set ?_ GE222.out) | exact HB.out))) : w.heap.size ≤ gb223)); have n5_ := Aside0.mk ((by rw [hg]; exact Nat.ne_of_lt (blk_lt (g := gb222) (o := .cells #[.int .i64 a0_0, .int .i64 a0_1, .int .i64 a0_2] 56 (0, 0)) (by (with_reducible repeat (first | refine blk_drewN ?_ _ | refine blk_drew ?_ | refine blk_alloc ?_ _)); exact BK222.out)) : gb222 ≠ gb223)); have n6_ := Aside0.mk ((by rw [hg]; exact Nat.ne_of_gt (blk_lt (g := gb222) (o := .cells #[.int .i64 a0_0, .int .i64 a0_1, .int .i64 a0_2] 56 (0, 0)) (by (with_reducible repeat (first | refine blk_drewN ?_ _ | refine blk_drew ?_ | refine blk_alloc ?_ _)); exact BK222.out)) : gb223 ≠ gb222)); clear BK222; clear HB; have BK222 := n0_; have HB := n1_; have BK223 := n2_; have GW223 := n3_; have GE223 := n4_; have NB222_223 := n5_; have NB223_222 := n6_; clear n0_ n1_ n2_ n3_ n4_ n5_ n6_; clear hb hbox hg; have hnb13 := NB222_223.out; have hnc13 := NB223_222.out; have hcz14_0 : w12.cell? ⟨gb222, 0, none⟩ = some (.int .i64 a0_0) := (blk_cell BK222.out 0).trans rfl; have hcz14_1 : w12.cell? ⟨gb222, 1, none⟩ = some (.int .i64 a0_1) := (blk_cell BK222.out 1).trans rfl; have hcz14_2 : w12.cell? ⟨gb222, 2, none⟩ = some (.int .i64 a0_2) := (blk_cell BK222.out 2).trans rfl; have hfz14_0 := blk_frozen BK222.out 0; have hfz14_1 := blk_frozen BK222.out 1; have hfz14_2 := blk_frozen BK222.out 2; have hcz15_0 : w12.cell? ⟨gb223, 0, none⟩ = some (.int .i64 a1_0) := (blk_cell BK223.out 0).trans rfl; have hcz15_1 : w12.cell? ⟨gb223, 1, none⟩ = some (.int .i64 a1_1) := (blk_cell BK223.out 1).trans rfl; have hcz15_2 : w12.cell? ⟨gb223, 2, none⟩ = some (.int .i64 a1_2) := (blk_cell BK223.out 2).trans rfl; have hfz15_0 := blk_frozen BK223.out 0; have hfz15_1 := blk_frozen BK223.out 1; have hfz15_2 := blk_frozen BK223.out 2))
    go_ret
    exact ⟨by first | rfl | (simp [errW_none, errW_some] <;> rfl) | (simp [*, errW_none, errW_some] <;> rfl), by repeat (first | (with_reducible first | exact HB.out | apply bwA | apply bwN | apply bwD | refine below_set ?_ GE222.out | refine below_set ?_ GE223.out) | exact HB.out)⟩
  ·rw [if_neg c4] at H
   have c4b0 : (a0_1 == a1_1) = false := beq_eq_false_iff_ne.mpr c4
   have c4b1 : (a0_1 != a1_1) = true := bne_iff_ne.mpr c4
   obtain rfl := Option.some.inj H
   go_enter Try.func132, Try.ntmps132
   go_wp2_with (first | ((with_reducible refine gate_dst (N := 2) rfl ?_); refine box_event ?hg (N := 2) ?hd (cs := #[.int .i64 a0_0, .int .i64 a0_1, .int .i64 a0_2]) (t := 56) ?hr ?_; (case hd => rfl); (case hg => rfl); (case hr => first | (go_simp; done) | (go_simp; rfl)); intro gb222 hg w16 hbox hb; have n0_ := Aside0.mk (below_step (by repeat (first | (with_reducible first | exact HB.out | apply bwA | apply bwN | apply bwD) | exact HB.out)) hb); have n1_ := Aside0.mk (hbox); have n2_ := Aside0.mk ((by rw [hg]; exact (below_size (by repeat (first | (with_reducible first | exact HB.out | apply bwA | apply bwN | apply bwD) | exact HB.out))) : w.heap.size ≤ gb222)); have n3_ := Aside0.mk ((by rw [hg]; exact (below_size (by repeat (first | (with_reducible first | exact HB.out | apply bwA | apply bwN | apply bwD) | exact HB.out))) : w.heap.size ≤ gb222)); clear HB; have HB := n0_; have BK222 := n1_; have GW222 := n2_; have GE222 := n3_; clear n0_ n1_ n2_ n3_; clear hb hbox hg) | ((with_reducible refine gate_dst (N := 3) rfl ?_); refine box_event ?hg (N := 3) ?hd (cs := #[.int .i64 a1_0, .int .i64 a1_1, .int .i64 a1_2]) (t := 56) ?hr ?_; (case hd => rfl); (case hg => rfl); (case hr => first | (go_simp; done) | (go_simp; rfl)); intro gb223 hg w17 hbox hb; have n0_ := Aside0.mk (blk_below (g := gb222) (o := .cells #[.int .i64 a0_0, .int .i64 a0_1, .int .i64 a0_2] 56 (0, 0)) (by (with_reducible repeat (first | refine blk_drewN ?_ _ | refine blk_drew ?_ | refine blk_alloc ?_ _)); exact BK222.out) hb); have n1_ := Aside0.mk (below_step (by repeat (first | (with_reducible first | exact HB.out | apply bwA | apply bwN | apply bwD | refine below_set ?_ GE222.out) | exact HB.out)) hb); have n2_ := Aside0.mk (hbox); have n3_ := Aside0.mk ((by rw [hg]; exact (below_size (by repeat (first | (with_reducible first | exact HB.out | apply bwA | apply bwN | apply bwD | refine below_set ?_ GE222.out) | exact HB.out))) : w.heap.size ≤ gb223)); have n4_ := Aside0.mk ((by rw [hg]; exact (below_size (by repeat (first | (with_reducible first | exact HB.out | apply bwA | apply bwN | apply bwD | refine below_set ?_ GE222.out) | exact HB.out))) : w.heap.size ≤ gb223)); have n5_ := Aside0.mk ((by rw [hg]; exact Nat.ne_of_lt (blk_lt (g := gb222) (o := .cells #[.int .i64 a0_0, .int .i64 a0_1, .int .i64 a0_2] 56 (0, 0)) (by (with_reducible repeat (first | refine blk_drewN ?_ _ | refine blk_drew ?_ | refine blk_alloc ?_ _)); exact BK222.out)) : gb222 ≠ gb223)); have n6_ := Aside0.mk ((by rw [hg]; exact Nat.ne_of_gt (blk_lt (g := gb222) (o := .cells #[.int .i64 a0_0, .int .i64 a0_1, .int .i64 a0_2] 56 (0, 0)) (by (with_reducible repeat (first | refine blk_drewN ?_ _ | refine blk_drew ?_ | refine blk_alloc ?_ _)); exact BK222.out)) : gb223 ≠ gb222)); clear BK222; clear HB; have BK222 := n0_; have HB := n1_; have BK223 := n2_; have GW223 := n3_; have GE223 := n4_; have NB222_223 := n5_; have NB223_222 := n6_; clear n0_ n1_ n2_ n3_ n4_ n5_ n6_; clear hb hbox hg; have hnb18 := NB222_223.out; have hnc18 := NB223_222.out; have hcz19_0 : w17.cell? ⟨gb222, 0, none⟩ = some (.int .i64 a0_0) := (blk_cell BK222.out 0).trans rfl; have hcz19_1 : w17.cell? ⟨gb222, 1, none⟩ = some (.int .i64 a0_1) := (blk_cell BK222.out 1).trans rfl; have hcz19_2 : w17.cell? ⟨gb222, 2, none⟩ = some (.int .i64 a0_2) := (blk_cell BK222.out 2).trans rfl; have hfz19_0 := blk_frozen BK222.out 0; have hfz19_1 := blk_frozen BK222.out 1; have hfz19_2 := blk_frozen BK222.out 2; have hcz20_0 : w17.cell? ⟨gb223, 0, none⟩ = some (.int .i64 a1_0) := (blk_cell BK223.out 0).trans rfl; have hcz20_1 : w17.cell? ⟨gb223, 1, none⟩ = some (.int .i64 a1_1) := (blk_cell BK223.out 1).trans rfl; have hcz20_2 : w17.cell? ⟨gb223, 2, none⟩ = some (.int .i64 a1_2) := (blk_cell BK223.out 2).trans rfl; have hfz20_0 := blk_frozen BK223.out 0; have hfz20_1 := blk_frozen BK223.out 1; have hfz20_2 := blk_frozen BK223.out 2))
   go_ret
   exact ⟨by first | rfl | (simp [errW_none, errW_some] <;> rfl) | (simp [*, errW_none, errW_some] <;> rfl), by repeat (first | (with_reducible first | exact HB.out | apply bwA | apply bwN | apply bwD | refine below_set ?_ GE222.out | refine below_set ?_ GE223.out) | exact HB.out)⟩
 ·rw [if_neg c3] at H
  have c3b0 : (a0_0 == a1_0) = false := beq_eq_false_iff_ne.mpr c3
  have c3b1 : (a0_0 != a1_0) = true := bne_iff_ne.mpr c3
  obtain rfl := Option.some.inj H
  go_enter Try.func132, Try.ntmps132
  go_wp2_with (first | ((with_reducible refine gate_dst (N := 2) rfl ?_); refine box_event ?hg (N := 2) ?hd (cs := #[.int .i64 a0_0, .int .i64 a0_1, .int .i64 a0_2]) (t := 56) ?hr ?_; (case hd => rfl); (case hg => rfl); (case hr => first | (go_simp; done) | (go_simp; rfl)); intro gb222 hg w21 hbox hb; have n0_ := Aside0.mk (below_step (by repeat (first | (with_reducible first | exact HB.out | apply bwA | apply bwN | apply bwD) | exact HB.out)) hb); have n1_ := Aside0.mk (hbox); have n2_ := Aside0.mk ((by rw [hg]; exact (below_size (by repeat (first | (with_reducible first | exact HB.out | apply bwA | apply bwN | apply bwD) | exact HB.out))) : w.heap.size ≤ gb222)); have n3_ := Aside0.mk ((by rw [hg]; exact (below_size (by repeat (first | (with_reducible first | exact HB.out | apply bwA | apply bwN | apply bwD) | exact HB.out))) : w.heap.size ≤ gb222)); clear HB; have HB := n0_; have BK222 := n1_; have GW222 := n2_; have GE222 := n3_; clear n0_ n1_ n2_ n3_; clear hb hbox hg) | ((with_reducible refine gate_dst (N := 3) rfl ?_); refine box_event ?hg (N := 3) ?hd (cs := #[.int .i64 a1_0, .int .i64 a1_1, .int .i64 a1_2]) (t := 56) ?hr ?_; (case hd => rfl); (case hg => rfl); (case hr => first | (go_simp; done) | (go_simp; rfl)); intro gb223 hg w22 hbox hb; have n0_ := Aside0.mk (blk_below (g := gb222) (o := .cells #[.int .i64 a0_0, .int .i64 a0_1, .int .i64 a0_2] 56 (0, 0)) (by (with_reducible repeat (first | refine blk_drewN ?_ _ | refine blk_drew ?_ | refine blk_alloc ?_ _)); exact BK222.out) hb); have n1_ := Aside0.mk (below_step (by repeat (first | (with_reducible first | exact HB.out | apply bwA | apply bwN | apply bwD | refine below_set ?_ GE222.out) | exact HB.out)) hb); have n2_ := Aside0.mk (hbox); have n3_ := Aside0.mk ((by rw [hg]; exact (below_size (by repeat (first | (with_reducible first | exact HB.out | apply bwA | apply bwN | apply bwD | refine below_set ?_ GE222.out) | exact HB.out))) : w.heap.size ≤ gb223)); have n4_ := Aside0.mk ((by rw [hg]; exact (below_size (by repeat (first | (with_reducible first | exact HB.out | apply bwA | apply bwN | apply bwD | refine below_set ?_ GE222.out) | exact HB.out))) : w.heap.size ≤ gb223)); have n5_ := Aside0.mk ((by rw [hg]; exact Nat.ne_of_lt (blk_lt (g := gb222) (o := .cells #[.int .i64 a0_0, .int .i64 a0_1, .int .i64 a0_2] 56 (0, 0)) (by (with_reducible repeat (first | refine blk_drewN ?_ _ | refine blk_drew ?_ | refine blk_alloc ?_ _)); exact BK222.out)) : gb222 ≠ gb223)); have n6_ := Aside0.mk ((by rw [hg]; exact Nat.ne_of_gt (blk_lt (g := gb222) (o := .cells #[.int .i64 a0_0, .int .i64 a0_1, .int .i64 a0_2] 56 (0, 0)) (by (with_reducible repeat (first | refine blk_drewN ?_ _ | refine blk_drew ?_ | refine blk_alloc ?_ _)); exact BK222.out)) : gb223 ≠ gb222)); clear BK222; clear HB; have BK222 := n0_; have HB := n1_; have BK223 := n2_; have GW223 := n3_; have GE223 := n4_; have NB222_223 := n5_; have NB223_222 := n6_; clear n0_ n1_ n2_ n3_ n4_ n5_ n6_; clear hb hbox hg; have hnb23 := NB222_223.out; have hnc23 := NB223_222.out; have hcz24_0 : w22.cell? ⟨gb222, 0, none⟩ = some (.int .i64 a0_0) := (blk_cell BK222.out 0).trans rfl; have hcz24_1 : w22.cell? ⟨gb222, 1, none⟩ = some (.int .i64 a0_1) := (blk_cell BK222.out 1).trans rfl; have hcz24_2 : w22.cell? ⟨gb222, 2, none⟩ = some (.int .i64 a0_2) := (blk_cell BK222.out 2).trans rfl; have hfz24_0 := blk_frozen BK222.out 0; have hfz24_1 := blk_frozen BK222.out 1; have hfz24_2 := blk_frozen BK222.out 2; have hcz25_0 : w22.cell? ⟨gb223, 0, none⟩ = some (.int .i64 a1_0) := (blk_cell BK223.out 0).trans rfl; have hcz25_1 : w22.cell? ⟨gb223, 1, none⟩ = some (.int .i64 a1_1) := (blk_cell BK223.out 1).trans rfl; have hcz25_2 : w22.cell? ⟨gb223, 2, none⟩ = some (.int .i64 a1_2) := (blk_cell BK223.out 2).trans rfl; have hfz25_0 := blk_frozen BK223.out 0; have hfz25_1 := blk_frozen BK223.out 1; have hfz25_2 := blk_frozen BK223.out 2))
  go_ret
  exact ⟨by first | rfl | (simp [errW_none, errW_some] <;> rfl) | (simp [*, errW_none, errW_some] <;> rfl), by repeat (first | (with_reducible first | exact HB.out | apply bwA | apply bwN | apply bwD | refine below_set ?_ GE222.out | refine below_set ?_ GE223.out) | exact HB.out)⟩

/-! ### laws_eqForkS: function 97 -/
def laws_eqForkS.l0 : Nat → List (S56) → List (S56) → Int → Option (Bool)
 | 0, _, _, _ => none
 | k + 1, x0, x1, x5 => if x5 < (x0.length : Int) then (if 0 ≤ x5 then (if x5 < (x1.length : Int) then ((laws_eqFork.f ((rd_T56 x0 x5).f0) ((rd_T56 x0 x5).f1) ((rd_T56 x0 x5).f2) ((rd_T56 x1 x5).f0) ((rd_T56 x1 x5).f1) ((rd_T56 x1 x5).f2)).bind fun t226 => (if t226 = true then (laws_eqForkS.l0 k x0 x1 (wrap64 (x5 + 1))) else (some false))) else (none)) else (none)) else (some true)
def laws_eqForkS.f (k : Nat) (l0 : List (S56)) (l1 : List (S56)) : Option (Bool) := if (l0.length : Int) = (l1.length : Int) then (laws_eqForkS.l0 k l0 l1 0) else (some false)
theorem laws_eqForkS.mono_l : ∀ k, (∀ y0 y1 y2, LeO (laws_eqForkS.l0 k y0 y1 y2) (laws_eqForkS.l0 (k + 1) y0 y1 y2))
 | 0 => fun _ _ _ r h => by simp [laws_eqForkS.l0] at h
 | k + 1 => by
  have ih0 := laws_eqForkS.mono_l k
  ·intro y0 y1 y2
   unfold laws_eqForkS.l0
   repeat' first
   | (with_reducible exact ih0 _ _ _)
   | (with_reducible exact LeO.refl _)
   | (with_reducible exact LeO.none _)
   | (with_reducible refine LeO.ite ?_ ?_)
   | (with_reducible refine LeO.bind ?_ (fun _ => ?_))
   | exact ih0 _ _ _
   | exact LeO.none _
   | refine LeO.ite ?_ ?_
   | refine LeO.bind ?_ (fun _ => ?_)
theorem laws_eqForkS.mono : ∀ a0 a1 k, LeO (laws_eqForkS.f k a0 a1) (laws_eqForkS.f (k + 1) a0 a1) := by
 intro a0 a1 k
 have ih0 := laws_eqForkS.mono_l k
 unfold laws_eqForkS.f
 repeat' first
   | (with_reducible exact ih0 _ _ _)
   | (with_reducible exact LeO.refl _)
   | (with_reducible exact LeO.none _)
   | (with_reducible refine LeO.ite ?_ ?_)
   | (with_reducible refine LeO.bind ?_ (fun _ => ?_))
   | exact ih0 _ _ _
   | exact LeO.none _
   | refine LeO.ite ?_ ?_
   | refine LeO.bind ?_ (fun _ => ?_)
def laws_eqForkS.T6 : Bool × List (List Nat × List Nat) := (true, [([], []), ([], []), ([0, 1], [0, 1]), ([2], [2]), ([], []), ([], []), ([4, 5], [4, 5]), ([6], [6]), ([3, 7], [3, 7]), ([8], [8])])
def laws_eqForkS.B6 : List Nat := [0, 0, 3, 7, 0, 0, 48, 112, 255, 511]
theorem laws_eqForkS.tab6 : rtab .any (opsOf Try.f97 6) = laws_eqForkS.T6 := by kernel_rfl
theorem laws_eqForkS.bits6 : waitsOk laws_eqForkS.T6.2 laws_eqForkS.B6 = true := by kernel_rfl
set_option maxHeartbeats 8000000 in
set_option maxRecDepth 100000 in
theorem laws_eqForkS.calls (k : Nat) (A0 : Option Addr) (c0 : Nat) (l0 : List (S56)) (A1 : Option Addr) (c1 : Nat) (l1 : List (S56)) (r : Bool) (w : World) (hr0 : Kd.C k56 w A0 l0.length l0) (hc0 : l0.length ≤ c0) (hr1 : Kd.C k56 w A1 l1.length l1) (hc1 : l1.length ≤ c1) (h : laws_eqForkS.f k l0 l1 = some r) :
  Calls Try.prog 97 #[.slice A0 l0.length c0, .slice A1 l1.length c1] w fun e w' => e = .returned (.bool r) ∧ Below w.heap.size w w' := by
 have hu56 := Try.underlying56
 have HR0 := Aside0.mk hr0
 have HC0 := Aside0.mk hc0
 clear hr0 hc0
 have HR1 := Aside0.mk hr1
 have HC1 := Aside0.mk hc1
 clear hr1 hc1
 have HB := Aside0.mk (Below.refl w.heap.size w)
 have H : (if (l0.length : Int) = (l1.length : Int) then (laws_eqForkS.l0 k l0 l1 0) else (some false)) = some r := h
 clear h
 by_cases c3 : (l0.length : Int) = (l1.length : Int)
 ·rw [if_pos c3] at H
  have c3b0 : ((l0.length : Int) == (l1.length : Int)) = true := beq_iff_eq.mpr c3
  have c3b1 : ((l0.length : Int) != (l1.length : Int)) = false := bne_eq_false_iff_eq.mpr c3
  have c3b2 : (l0.length == l1.length) = true := by first | simpa using c3 | (simp at c3 ⊢; omega)
  clear c3
  have H' := Aside0.mk H
  clear H
  go_enter Try.func97, Try.ntmps97
  go_wp2
  go_loopg [5] k (fun kq v5 w' => ∃ (x5_1 : Int), v5 = .int .i64 x5_1 ∧ Aside0 (laws_eqForkS.l0 kq l0 l1 x5_1 = some r) ∧ Aside0 (kq ≤ k) ∧ Aside0 (Below w.heap.size w w'))
  case atStart => exact ⟨(0), (by first | rfl | (simp; done) | (simp [*]; done)), H', ⟨Nat.le_refl _⟩, ⟨by repeat (first | (with_reducible first | exact HB.out | apply bwA | apply bwN | apply bwD) | exact HB.out)⟩⟩
  case round =>
   clear H'
   try clear c1
   try clear p2
   try clear c3
   try clear c3b0
   try clear c3b1
   try clear c3b2
   obtain ⟨x5_1, rfl, HA, HK1, HB⟩ := hrel
   cases gk with
   | zero => exact absurd HA.out (by simp [laws_eqForkS.l0])
   | succ k1 =>
    have H := HA.out
    clear HA
    simp only [laws_eqForkS.l0] at H
    by_cases c4 : x5_1 < (l0.length : Int)
    ·rw [if_pos c4] at H
     have c4b0 : decide (x5_1 < (l0.length : Int)) = true := decide_eq_true c4
     clear c4
     by_cases c5 : 0 ≤ x5_1
     ·rw [if_pos c5] at H
      have c5b0 : decide (0 ≤ x5_1) = true := decide_eq_true c5
      clear c5
      by_cases c6 : x5_1 < (l1.length : Int)
      ·rw [if_pos c6] at H
       have c6b0 : decide (x5_1 < (l1.length : Int)) = true := decide_eq_true c6
       clear c6
       replace H := Option.bind_eq_some_iff.mp H
       obtain ⟨t226, A70, H⟩ := H
       replace H : (if t226 = true then (laws_eqForkS.l0 k1 l0 l1 (wrap64 (x5_1 + 1))) else (some false)) = some r := H
       have A7 := Aside0.mk A70
       clear A70
       by_cases c8 : t226 = true
       ·subst c8
        have H1 : (laws_eqForkS.l0 k1 l0 l1 (wrap64 (x5_1 + 1))) = some r := by rw [if_pos rfl] at H; exact H
        clear H
        have H := H1
        clear H1
        have H' := Aside0.mk H
        clear H
        try go_wp2
        have n0_ := Aside0.mk (below_drew1 HB.out)
        clear HB
        have HB := n0_
        clear n0_
        have p224 : 0 ≤ (x5_1 : Int) := of_decide_eq_true (by first | (with_reducible assumption) | assumption)
        have q224 : x5_1 < (l0.length : Int) := of_decide_eq_true (by first | (with_reducible assumption) | assumption)
        obtain ⟨ad224, e224, hx224_0, hx224_1, hx224_2⟩ := at_T56 HR0.out x5_1 p224 q224
        have hw224_2 := hx224_2
        have hw224_1 := hx224_1
        have hw224_0 := hx224_0
        cases e224
        try replace hx224_0 := (HB.out.cell (World.block_lt_of_cell? w _ hx224_0)).trans hx224_0
        try replace hx224_1 := (HB.out.cell (World.block_lt_of_cell? w _ hx224_1)).trans hx224_1
        try replace hx224_2 := (HB.out.cell (World.block_lt_of_cell? w _ hx224_2)).trans hx224_2
        replace p224 := eq_true p224
        replace q224 := eq_true q224
        have p225 : 0 ≤ (x5_1 : Int) := of_decide_eq_true (by first | (with_reducible assumption) | assumption)
        have q225 : x5_1 < (l1.length : Int) := of_decide_eq_true (by first | (with_reducible assumption) | assumption)
        obtain ⟨ad225, e225, hx225_0, hx225_1, hx225_2⟩ := at_T56 HR1.out x5_1 p225 q225
        have hw225_2 := hx225_2
        have hw225_1 := hx225_1
        have hw225_0 := hx225_0
        cases e225
        try replace hx225_0 := (HB.out.cell (World.block_lt_of_cell? w _ hx225_0)).trans hx225_0
        try replace hx225_1 := (HB.out.cell (World.block_lt_of_cell? w _ hx225_1)).trans hx225_1
        try replace hx225_2 := (HB.out.cell (World.block_lt_of_cell? w _ hx225_2)).trans hx225_2
        replace p225 := eq_true p225
        replace q225 := eq_true q225
        refine start_ (n := 10) (S := fun w' => w'.cell? (ad224.add ((x5_1).toNat * 3)) = some (.int .i64 ((rd_T56 l0 x5_1).f0)) ∧ w'.cell? ⟨(ad224.add ((x5_1).toNat * 3)).block, (ad224.add ((x5_1).toNat * 3)).off + 1, none⟩ = some (.int .i64 ((rd_T56 l0 x5_1).f1)) ∧ w'.cell? ⟨(ad224.add ((x5_1).toNat * 3)).block, (ad224.add ((x5_1).toNat * 3)).off + 2, none⟩ = some (.int .i64 ((rd_T56 l0 x5_1).f2)) ∧ w'.cell? (ad225.add ((x5_1).toNat * 3)) = some (.int .i64 ((rd_T56 l1 x5_1).f0)) ∧ w'.cell? ⟨(ad225.add ((x5_1).toNat * 3)).block, (ad225.add ((x5_1).toNat * 3)).off + 1, none⟩ = some (.int .i64 ((rd_T56 l1 x5_1).f1)) ∧ w'.cell? ⟨(ad225.add ((x5_1).toNat * 3)).block, (ad225.add ((x5_1).toNat * 3)).off + 2, none⟩ = some (.int .i64 ((rd_T56 l1 x5_1).f2))) (ds := []) #[false, false, false, false, false, false, false, false, false, false] (by kernel_rfl) rfl rfl ⟨((HB.out.cell (World.block_lt_of_cell? w _ hw224_0)).trans hw224_0), ((HB.out.cell (World.block_lt_of_cell? w _ hw224_1)).trans hw224_1), ((HB.out.cell (World.block_lt_of_cell? w _ hw224_2)).trans hw224_2), ((HB.out.cell (World.block_lt_of_cell? w _ hw225_0)).trans hw225_0), ((HB.out.cell (World.block_lt_of_cell? w _ hw225_1)).trans hw225_1), ((HB.out.cell (World.block_lt_of_cell? w _ hw225_2)).trans hw225_2)⟩ (fun hHeld => ?_); refine with_tabW laws_eqForkS.tab6 laws_eqForkS.bits6 (fun HT_ HW_ => ?_)
        generalize wr.drew = w9 at HB hx224_0 hx224_1 hx224_2 hx225_0 hx225_1 hx225_2 hHeld ⊢
        refine pure_ (i := 0) (N := some 17) (v := ?_) (a' := ?_) #[true, false, false, false, false, false, false, false, false, false] rfl rfl (any_of HT_.out (by kernel_rfl)) (fun _ _ _ h => h) (Or.inl ⟨by rfl, ?_⟩) ?_ ?_
        rotate_left
        ·intro w'
         go_simp
         with_reducible rfl
        rotate_left
        ·simp only [Act.put, List.setIfInBounds_toArray, List.set_cons_zero, List.set_cons_succ, i64_w, i32_w]
         rfl
        refine pure_ (i := 1) (N := some 18) (v := ?_) (a' := ?_) #[true, true, false, false, false, false, false, false, false, false] rfl rfl (any_of HT_.out (by kernel_rfl)) (fun _ _ _ h => h) (Or.inl ⟨by rfl, ?_⟩) ?_ ?_
        rotate_left
        ·intro w'
         go_simp
         with_reducible rfl
        rotate_left
        ·simp only [Act.put, List.setIfInBounds_toArray, List.set_cons_zero, List.set_cons_succ, i64_w, i32_w]
         rfl
        refine pure_ (i := 2) (N := some 19) (v := ?_) (a' := ?_) #[true, true, true, false, false, false, false, false, false, false] rfl rfl (any_of HT_.out (by kernel_rfl)) (fun _ _ _ h => h) (Or.inl ⟨by rfl, ?_⟩) ?_ ?_
        rotate_left
        ·intro w'
         go_simp
         with_reducible rfl
        rotate_left
        ·simp only [Act.put, List.setIfInBounds_toArray, List.set_cons_zero, List.set_cons_succ, i64_w, i32_w]
         rfl
        refine pure_ (i := 4) (N := some 21) (v := ?_) (a' := ?_) #[true, true, true, false, true, false, false, false, false, false] rfl rfl (any_of HT_.out (by kernel_rfl)) (fun _ _ _ h => h) (Or.inl ⟨by rfl, ?_⟩) ?_ ?_
        rotate_left
        ·intro w'
         go_simp
         with_reducible rfl
        rotate_left
        ·simp only [Act.put, List.setIfInBounds_toArray, List.set_cons_zero, List.set_cons_succ, i64_w, i32_w]
         rfl
        refine pure_ (i := 5) (N := some 22) (v := ?_) (a' := ?_) #[true, true, true, false, true, true, false, false, false, false] rfl rfl (any_of HT_.out (by kernel_rfl)) (fun _ _ _ h => h) (Or.inl ⟨by rfl, ?_⟩) ?_ ?_
        rotate_left
        ·intro w'
         go_simp
         with_reducible rfl
        rotate_left
        ·simp only [Act.put, List.setIfInBounds_toArray, List.set_cons_zero, List.set_cons_succ, i64_w, i32_w]
         rfl
        refine pure_ (i := 6) (N := some 23) (v := ?_) (a' := ?_) #[true, true, true, false, true, true, true, false, false, false] rfl rfl (any_of HT_.out (by kernel_rfl)) (fun _ _ _ h => h) (Or.inl ⟨by rfl, ?_⟩) ?_ ?_
        rotate_left
        ·intro w'
         go_simp
         with_reducible rfl
        rotate_left
        ·simp only [Act.put, List.setIfInBounds_toArray, List.set_cons_zero, List.set_cons_succ, i64_w, i32_w]
         rfl
        refine take_ (i := 3) (N := some 20) (v := ?_) (a' := ?_) #[true, true, true, true, true, true, true, false, false, false] rfl rfl (take_ofW HT_.out HW_.out (by kernel_rfl)) (fun _ _ _ h => h) (Or.inl ⟨by rfl, ?_⟩) hHeld ?_ ?_
        rotate_left
        ·rintro w' ⟨s0, s1, s2, s3, s4, s5⟩
         go_simp
         with_reducible rfl
        rotate_left
        ·simp only [Act.put, List.setIfInBounds_toArray, List.set_cons_zero, List.set_cons_succ, i64_w, i32_w]
         rfl
        refine take_ (i := 7) (N := some 24) (v := ?_) (a' := ?_) #[true, true, true, true, true, true, true, true, false, false] rfl rfl (take_ofW HT_.out HW_.out (by kernel_rfl)) (fun _ _ _ h => h) (Or.inl ⟨by rfl, ?_⟩) hHeld ?_ ?_
        rotate_left
        ·rintro w' ⟨s0, s1, s2, s3, s4, s5⟩
         go_simp
         with_reducible rfl
        rotate_left
        ·simp only [Act.put, List.setIfInBounds_toArray, List.set_cons_zero, List.set_cons_succ, i64_w, i32_w]
         rfl
        refine one_ (i := 8) (N := some 25) #[true, true, true, true, true, true, true, true, true, false] rfl rfl (one_of HT_.out (by kernel_rfl)) (by decide) (fun K hK => ?_)
        refine goes_ Try.func132 (by kernel_rfl) rfl #[.agg #[.int .i64 ((rd_T56 l0 x5_1).f0), .int .i64 ((rd_T56 l0 x5_1).f1), .int .i64 ((rd_T56 l0 x5_1).f2)], .agg #[.int .i64 ((rd_T56 l1 x5_1).f0), .int .i64 ((rd_T56 l1 x5_1).f1), .int .i64 ((rd_T56 l1 x5_1).f2)]] (by rfl) rfl rfl (by (try simp only [List.map_toArray, List.map_cons, List.map_nil]); first | done | rfl | (simp only [List.length_drop, List.length_take]; rfl)) ?_
        with_reducible refine (laws_eqFork.calls ((rd_T56 l0 x5_1).f0) ((rd_T56 l0 x5_1).f1) ((rd_T56 l0 x5_1).f2) ((rd_T56 l1 x5_1).f0) ((rd_T56 l1 x5_1).f1) ((rd_T56 l1 x5_1).f2) true _ A7.out).mono ?_
        rintro e w10 ⟨rfl, hb⟩
        refine ⟨_, rfl, ?_⟩
        have n0_ := Aside0.mk (below_step (by repeat (first | (with_reducible first | exact HB.out | apply bwA | apply bwN | apply bwD) | exact HB.out)) hb)
        clear HB
        have HB := n0_
        clear n0_
        (try clear hb)
        (try clear hb2)
        (try clear hk)
        (try clear hi)
        refine hK.out _ _ ⟨((HB.out.cell (World.block_lt_of_cell? w _ hw224_0)).trans hw224_0), ((HB.out.cell (World.block_lt_of_cell? w _ hw224_1)).trans hw224_1), ((HB.out.cell (World.block_lt_of_cell? w _ hw224_2)).trans hw224_2), ((HB.out.cell (World.block_lt_of_cell? w _ hw225_0)).trans hw225_0), ((HB.out.cell (World.block_lt_of_cell? w _ hw225_1)).trans hw225_1), ((HB.out.cell (World.block_lt_of_cell? w _ hw225_2)).trans hw225_2)⟩ (fun hHeld => ?_)
        clear hK K
        refine norm_ (a' := ?_) ?_ ?_
        rotate_left
        ·show Act.put _ (some 25) _ = _
         simp only [Act.put, List.setIfInBounds_toArray, List.set_cons_zero, List.set_cons_succ, i64_w, i32_w]
         rfl
        refine pure_ (i := 9) (N := some 26) (v := ?_) (a' := ?_) #[true, true, true, true, true, true, true, true, true, true] rfl rfl (any_of HT_.out (by kernel_rfl)) (fun _ _ _ h => h) (Or.inl ⟨by rfl, ?_⟩) ?_ ?_
        rotate_left
        ·intro w'
         go_simp
         with_reducible rfl
        rotate_left
        ·simp only [Act.put, List.setIfInBounds_toArray, List.set_cons_zero, List.set_cons_succ, i64_w, i32_w]
         rfl
        refine done_ (done_of HT_.out (by kernel_rfl)) ?_
        try go_wp2
        go_roundg k1
        case measure => have := HK1.out; omega
        case rel => exact ⟨(wrap64 (x5_1 + 1)), (by first | rfl | (simp; done) | (simp [*]; done)), H', ⟨by have := HK1.out; omega⟩, ⟨by repeat (first | (with_reducible first | exact HB.out | apply bwA | apply bwN | apply bwD) | exact HB.out)⟩⟩
       ·replace c8 := Bool.eq_false_iff.mpr c8
        subst c8
        have H1 : (some false) = some r := by rw [if_neg (show ¬ (false = true) by decide)] at H; exact H
        clear H
        have H := H1
        clear H1
        obtain rfl := Option.some.inj H
        try go_wp2
        have n0_ := Aside0.mk (below_drew1 HB.out)
        clear HB
        have HB := n0_
        clear n0_
        have p224 : 0 ≤ (x5_1 : Int) := of_decide_eq_true (by first | (with_reducible assumption) | assumption)
        have q224 : x5_1 < (l0.length : Int) := of_decide_eq_true (by first | (with_reducible assumption) | assumption)
        obtain ⟨ad224, e224, hx224_0, hx224_1, hx224_2⟩ := at_T56 HR0.out x5_1 p224 q224
        have hw224_2 := hx224_2
        have hw224_1 := hx224_1
        have hw224_0 := hx224_0
        cases e224
        try replace hx224_0 := (HB.out.cell (World.block_lt_of_cell? w _ hx224_0)).trans hx224_0
        try replace hx224_1 := (HB.out.cell (World.block_lt_of_cell? w _ hx224_1)).trans hx224_1
        try replace hx224_2 := (HB.out.cell (World.block_lt_of_cell? w _ hx224_2)).trans hx224_2
        replace p224 := eq_true p224
        replace q224 := eq_true q224
        have p225 : 0 ≤ (x5_1 : Int) := of_decide_eq_true (by first | (with_reducible assumption) | assumption)
        have q225 : x5_1 < (l1.length : Int) := of_decide_eq_true (by first | (with_reducible assumption) | assumption)
        obtain ⟨ad225, e225, hx225_0, hx225_1, hx225_2⟩ := at_T56 HR1.out x5_1 p225 q225
        have hw225_2 := hx225_2
        have hw225_1 := hx225_1
        have hw225_0 := hx225_0
        cases e225
        try replace hx225_0 := (HB.out.cell (World.block_lt_of_cell? w _ hx225_0)).trans hx225_0
        try replace hx225_1 := (HB.out.cell (World.block_lt_of_cell? w _ hx225_1)).trans hx225_1
        try replace hx225_2 := (HB.out.cell (World.block_lt_of_cell? w _ hx225_2)).trans hx225_2
        replace p225 := eq_true p225
        replace q225 := eq_true q225
        refine start_ (n := 10) (S := fun w' => w'.cell? (ad224.add ((x5_1).toNat * 3)) = some (.int .i64 ((rd_T56 l0 x5_1).f0)) ∧ w'.cell? ⟨(ad224.add ((x5_1).toNat * 3)).block, (ad224.add ((x5_1).toNat * 3)).off + 1, none⟩ = some (.int .i64 ((rd_T56 l0 x5_1).f1)) ∧ w'.cell? ⟨(ad224.add ((x5_1).toNat * 3)).block, (ad224.add ((x5_1).toNat * 3)).off + 2, none⟩ = some (.int .i64 ((rd_T56 l0 x5_1).f2)) ∧ w'.cell? (ad225.add ((x5_1).toNat * 3)) = some (.int .i64 ((rd_T56 l1 x5_1).f0)) ∧ w'.cell? ⟨(ad225.add ((x5_1).toNat * 3)).block, (ad225.add ((x5_1).toNat * 3)).off + 1, none⟩ = some (.int .i64 ((rd_T56 l1 x5_1).f1)) ∧ w'.cell? ⟨(ad225.add ((x5_1).toNat * 3)).block, (ad225.add ((x5_1).toNat * 3)).off + 2, none⟩ = some (.int .i64 ((rd_T56 l1 x5_1).f2))) (ds := []) #[false, false, false, false, false, false, false, false, false, false] (by kernel_rfl) rfl rfl ⟨((HB.out.cell (World.block_lt_of_cell? w _ hw224_0)).trans hw224_0), ((HB.out.cell (World.block_lt_of_cell? w _ hw224_1)).trans hw224_1), ((HB.out.cell (World.block_lt_of_cell? w _ hw224_2)).trans hw224_2), ((HB.out.cell (World.block_lt_of_cell? w _ hw225_0)).trans hw225_0), ((HB.out.cell (World.block_lt_of_cell? w _ hw225_1)).trans hw225_1), ((HB.out.cell (World.block_lt_of_cell? w _ hw225_2)).trans hw225_2)⟩ (fun hHeld => ?_); refine with_tabW laws_eqForkS.tab6 laws_eqForkS.bits6 (fun HT_ HW_ => ?_)
        generalize wr.drew = w11 at HB hx224_0 hx224_1 hx224_2 hx225_0 hx225_1 hx225_2 hHeld ⊢
        refine pure_ (i := 0) (N := some 17) (v := ?_) (a' := ?_) #[true, false, false, false, false, false, false, false, false, false] rfl rfl (any_of HT_.out (by kernel_rfl)) (fun _ _ _ h => h) (Or.inl ⟨by rfl, ?_⟩) ?_ ?_
        rotate_left
        ·intro w'
         go_simp
         with_reducible rfl
        rotate_left
        ·simp only [Act.put, List.setIfInBounds_toArray, List.set_cons_zero, List.set_cons_succ, i64_w, i32_w]
         rfl
        refine pure_ (i := 1) (N := some 18) (v := ?_) (a' := ?_) #[true, true, false, false, false, false, false, false, false, false] rfl rfl (any_of HT_.out (by kernel_rfl)) (fun _ _ _ h => h) (Or.inl ⟨by rfl, ?_⟩) ?_ ?_
        rotate_left
        ·intro w'
         go_simp
         with_reducible rfl
        rotate_left
        ·simp only [Act.put, List.setIfInBounds_toArray, List.set_cons_zero, List.set_cons_succ, i64_w, i32_w]
         rfl
        refine pure_ (i := 2) (N := some 19) (v := ?_) (a' := ?_) #[true, true, true, false, false, false, false, false, false, false] rfl rfl (any_of HT_.out (by kernel_rfl)) (fun _ _ _ h => h) (Or.inl ⟨by rfl, ?_⟩) ?_ ?_
        rotate_left
        ·intro w'
         go_simp
         with_reducible rfl
        rotate_left
        ·simp only [Act.put, List.setIfInBounds_toArray, List.set_cons_zero, List.set_cons_succ, i64_w, i32_w]
         rfl
        refine pure_ (i := 4) (N := some 21) (v := ?_) (a' := ?_) #[true, true, true, false, true, false, false, false, false, false] rfl rfl (any_of HT_.out (by kernel_rfl)) (fun _ _ _ h => h) (Or.inl ⟨by rfl, ?_⟩) ?_ ?_
        rotate_left
        ·intro w'
         go_simp
         with_reducible rfl
        rotate_left
        ·simp only [Act.put, List.setIfInBounds_toArray, List.set_cons_zero, List.set_cons_succ, i64_w, i32_w]
         rfl
        refine pure_ (i := 5) (N := some 22) (v := ?_) (a' := ?_) #[true, true, true, false, true, true, false, false, false, false] rfl rfl (any_of HT_.out (by kernel_rfl)) (fun _ _ _ h => h) (Or.inl ⟨by rfl, ?_⟩) ?_ ?_
        rotate_left
        ·intro w'
         go_simp
         with_reducible rfl
        rotate_left
        ·simp only [Act.put, List.setIfInBounds_toArray, List.set_cons_zero, List.set_cons_succ, i64_w, i32_w]
         rfl
        refine pure_ (i := 6) (N := some 23) (v := ?_) (a' := ?_) #[true, true, true, false, true, true, true, false, false, false] rfl rfl (any_of HT_.out (by kernel_rfl)) (fun _ _ _ h => h) (Or.inl ⟨by rfl, ?_⟩) ?_ ?_
        rotate_left
        ·intro w'
         go_simp
         with_reducible rfl
        rotate_left
        ·simp only [Act.put, List.setIfInBounds_toArray, List.set_cons_zero, List.set_cons_succ, i64_w, i32_w]
         rfl
        refine take_ (i := 3) (N := some 20) (v := ?_) (a' := ?_) #[true, true, true, true, true, true, true, false, false, false] rfl rfl (take_ofW HT_.out HW_.out (by kernel_rfl)) (fun _ _ _ h => h) (Or.inl ⟨by rfl, ?_⟩) hHeld ?_ ?_
        rotate_left
        ·rintro w' ⟨s0, s1, s2, s3, s4, s5⟩
         go_simp
         with_reducible rfl
        rotate_left
        ·simp only [Act.put, List.setIfInBounds_toArray, List.set_cons_zero, List.set_cons_succ, i64_w, i32_w]
         rfl
        refine take_ (i := 7) (N := some 24) (v := ?_) (a' := ?_) #[true, true, true, true, true, true, true, true, false, false] rfl rfl (take_ofW HT_.out HW_.out (by kernel_rfl)) (fun _ _ _ h => h) (Or.inl ⟨by rfl, ?_⟩) hHeld ?_ ?_
        rotate_left
        ·rintro w' ⟨s0, s1, s2, s3, s4, s5⟩
         go_simp
         with_reducible rfl
        rotate_left
        ·simp only [Act.put, List.setIfInBounds_toArray, List.set_cons_zero, List.set_cons_succ, i64_w, i32_w]
         rfl
        refine one_ (i := 8) (N := some 25) #[true, true, true, true, true, true, true, true, true, false] rfl rfl (one_of HT_.out (by kernel_rfl)) (by decide) (fun K hK => ?_)
        refine goes_ Try.func132 (by kernel_rfl) rfl #[.agg #[.int .i64 ((rd_T56 l0 x5_1).f0), .int .i64 ((rd_T56 l0 x5_1).f1), .int .i64 ((rd_T56 l0 x5_1).f2)], .agg #[.int .i64 ((rd_T56 l1 x5_1).f0), .int .i64 ((rd_T56 l1 x5_1).f1), .int .i64 ((rd_T56 l1 x5_1).f2)]] (by rfl) rfl rfl (by (try simp only [List.map_toArray, List.map_cons, List.map_nil]); first | done | rfl | (simp only [List.length_drop, List.length_take]; rfl)) ?_
        with_reducible refine (laws_eqFork.calls ((rd_T56 l0 x5_1).f0) ((rd_T56 l0 x5_1).f1) ((rd_T56 l0 x5_1).f2) ((rd_T56 l1 x5_1).f0) ((rd_T56 l1 x5_1).f1) ((rd_T56 l1 x5_1).f2) false _ A7.out).mono ?_
        rintro e w12 ⟨rfl, hb⟩
        refine ⟨_, rfl, ?_⟩
        have n0_ := Aside0.mk (below_step (by repeat (first | (with_reducible first | exact HB.out | apply bwA | apply bwN | apply bwD) | exact HB.out)) hb)
        clear HB
        have HB := n0_
        clear n0_
        (try clear hb)
        (try clear hb2)
        (try clear hk)
        (try clear hi)
        refine hK.out _ _ ⟨((HB.out.cell (World.block_lt_of_cell? w _ hw224_0)).trans hw224_0), ((HB.out.cell (World.block_lt_of_cell? w _ hw224_1)).trans hw224_1), ((HB.out.cell (World.block_lt_of_cell? w _ hw224_2)).trans hw224_2), ((HB.out.cell (World.block_lt_of_cell? w _ hw225_0)).trans hw225_0), ((HB.out.cell (World.block_lt_of_cell? w _ hw225_1)).trans hw225_1), ((HB.out.cell (World.block_lt_of_cell? w _ hw225_2)).trans hw225_2)⟩ (fun hHeld => ?_)
        clear hK K
        refine norm_ (a' := ?_) ?_ ?_
        rotate_left
        ·show Act.put _ (some 25) _ = _
         simp only [Act.put, List.setIfInBounds_toArray, List.set_cons_zero, List.set_cons_succ, i64_w, i32_w]
         rfl
        refine pure_ (i := 9) (N := some 26) (v := ?_) (a' := ?_) #[true, true, true, true, true, true, true, true, true, true] rfl rfl (any_of HT_.out (by kernel_rfl)) (fun _ _ _ h => h) (Or.inl ⟨by rfl, ?_⟩) ?_ ?_
        rotate_left
        ·intro w'
         go_simp
         with_reducible rfl
        rotate_left
        ·simp only [Act.put, List.setIfInBounds_toArray, List.set_cons_zero, List.set_cons_succ, i64_w, i32_w]
         rfl
        refine done_ (done_of HT_.out (by kernel_rfl)) ?_
        try go_wp2
        go_ret
        exact ⟨by first | rfl | (simp [errW_none, errW_some] <;> rfl) | (simp [*, errW_none, errW_some] <;> rfl), by repeat (first | (with_reducible first | exact HB.out | apply bwA | apply bwN | apply bwD) | exact HB.out)⟩
      ·rw [if_neg c6] at H
       exact absurd H (by simp)
     ·rw [if_neg c5] at H
      exact absurd H (by simp)
    ·rw [if_neg c4] at H
     have c4b0 : decide (x5_1 < (l0.length : Int)) = false := decide_eq_false c4
     clear c4
     obtain rfl := Option.some.inj H
     go_wp2
     go_ret
     exact ⟨by first | rfl | (simp [errW_none, errW_some] <;> rfl) | (simp [*, errW_none, errW_some] <;> rfl), by repeat (first | (with_reducible first | exact HB.out | apply bwA | apply bwN | apply bwD) | exact HB.out)⟩
 ·rw [if_neg c3] at H
  have c3b0 : ((l0.length : Int) == (l1.length : Int)) = false := beq_eq_false_iff_ne.mpr c3
  have c3b1 : ((l0.length : Int) != (l1.length : Int)) = true := bne_iff_ne.mpr c3
  have c3b2 : (l0.length == l1.length) = false := by first | simpa using c3 | (simp at c3 ⊢; omega)
  obtain rfl := Option.some.inj H
  go_enter Try.func97, Try.ntmps97
  go_wp2
  go_ret
  exact ⟨by first | rfl | (simp [errW_none, errW_some] <;> rfl) | (simp [*, errW_none, errW_some] <;> rfl), by repeat (first | (with_reducible first | exact HB.out | apply bwA | apply bwN | apply bwD) | exact HB.out)⟩

/-! ### laws_eqDiagram: function 39 -/
def laws_eqDiagram.f (k : Nat) (a0_0 : Int) (l0_1 : List (S56)) (a1_0 : Int) (l1_1 : List (S56)) : Option (Bool) := if a0_0 = a1_0 then ((laws_eqForkS.f k l0_1 l1_1).bind fun t229 => (if t229 = true then (some true) else (some false))) else (some false)
theorem laws_eqDiagram.mono : ∀ a0 a1 a2 a3 k, LeO (laws_eqDiagram.f k a0 a1 a2 a3) (laws_eqDiagram.f (k + 1) a0 a1 a2 a3) := by
 intro a0 a1 a2 a3 k
 unfold laws_eqDiagram.f
 repeat' first
   | (with_reducible exact laws_eqForkS.mono _ _ _)
   | (with_reducible exact LeO.refl _)
   | (with_reducible exact LeO.none _)
   | (with_reducible refine LeO.ite ?_ ?_)
   | (with_reducible refine LeO.bind ?_ (fun _ => ?_))
   | exact laws_eqForkS.mono _ _ _
   | exact LeO.none _
   | refine LeO.ite ?_ ?_
   | refine LeO.bind ?_ (fun _ => ?_)
set_option maxHeartbeats 8000000 in
set_option maxRecDepth 100000 in
theorem laws_eqDiagram.calls (k : Nat) (a0_0 : Int) (A0_1 : Option Addr) (c0_1 : Nat) (l0_1 : List (S56)) (a1_0 : Int) (A1_1 : Option Addr) (c1_1 : Nat) (l1_1 : List (S56)) (r : Bool) (w : World) (hr0_1 : Kd.C k56 w A0_1 l0_1.length l0_1) (hc0_1 : l0_1.length ≤ c0_1) (hr1_1 : Kd.C k56 w A1_1 l1_1.length l1_1) (hc1_1 : l1_1.length ≤ c1_1) (h : laws_eqDiagram.f k a0_0 l0_1 a1_0 l1_1 = some r) :
  Calls Try.prog 39 #[.agg #[.int .i64 a0_0, .slice A0_1 l0_1.length c0_1], .agg #[.int .i64 a1_0, .slice A1_1 l1_1.length c1_1]] w fun e w' => e = .returned (.bool r) ∧ Below w.heap.size w w' := by
 have hu48 := Try.underlying48
 have HR0_1 := Aside0.mk hr0_1
 have HC0_1 := Aside0.mk hc0_1
 clear hr0_1 hc0_1
 have HR1_1 := Aside0.mk hr1_1
 have HC1_1 := Aside0.mk hc1_1
 clear hr1_1 hc1_1
 have HB := Aside0.mk (Below.refl w.heap.size w)
 have H : (if a0_0 = a1_0 then ((laws_eqForkS.f k l0_1 l1_1).bind fun t229 => (if t229 = true then (some true) else (some false))) else (some false)) = some r := h
 clear h
 by_cases c3 : a0_0 = a1_0
 ·rw [if_pos c3] at H
  have c3b0 : (a0_0 == a1_0) = true := beq_iff_eq.mpr c3
  have c3b1 : (a0_0 != a1_0) = false := bne_eq_false_iff_eq.mpr c3
  clear c3
  replace H := Option.bind_eq_some_iff.mp H
  obtain ⟨t229, A40, H⟩ := H
  replace H : (if t229 = true then (some true) else (some false)) = some r := H
  have A4 := Aside0.mk A40
  clear A40
  by_cases c5 : t229 = true
  ·subst c5
   have H1 : (some true) = some r := by rw [if_pos rfl] at H; exact H
   clear H
   have H := H1
   clear H1
   obtain rfl := Option.some.inj H
   go_enter Try.func39, Try.ntmps39
   go_wp2_with (first | ((with_reducible refine gate_dst (N := 2) rfl ?_); refine box_event ?hg (N := 2) ?hd (cs := #[.int .i64 a0_0, .slice A0_1 l0_1.length c0_1]) (t := 48) ?hr ?_; (case hd => rfl); (case hg => rfl); (case hr => first | (go_simp; done) | (go_simp; rfl)); intro gb227 hg w6 hbox hb; have n0_ := Aside0.mk (below_step (by repeat (first | (with_reducible first | exact HB.out | apply bwA | apply bwN | apply bwD) | exact HB.out)) hb); have n1_ := Aside0.mk (hbox); have n2_ := Aside0.mk ((by rw [hg]; exact (below_size (by repeat (first | (with_reducible first | exact HB.out | apply bwA | apply bwN | apply bwD) | exact HB.out))) : w.heap.size ≤ gb227)); have n3_ := Aside0.mk ((by rw [hg]; exact (below_size (by repeat (first | (with_reducible first | exact HB.out | apply bwA | apply bwN | apply bwD) | exact HB.out))) : w.heap.size ≤ gb227)); clear HB; have HB := n0_; have BK227 := n1_; have GW227 := n2_; have GE227 := n3_; clear n0_ n1_ n2_ n3_; clear hb hbox hg) | ((with_reducible refine gate_dst (N := 3) rfl ?_); refine box_event ?hg (N := 3) ?hd (cs := #[.int .i64 a1_0, .slice A1_1 l1_1.length c1_1]) (t := 48) ?hr ?_; (case hd => rfl); (case hg => rfl); (case hr => first | (go_simp; done) | (go_simp; rfl)); intro gb228 hg w7 hbox hb; have n0_ := Aside0.mk (blk_below (g := gb227) (o := .cells #[.int .i64 a0_0, .slice A0_1 l0_1.length c0_1] 48 (0, 0)) (by (with_reducible repeat (first | refine blk_drewN ?_ _ | refine blk_drew ?_ | refine blk_alloc ?_ _)); exact BK227.out) hb); have n1_ := Aside0.mk (below_step (by repeat (first | (with_reducible first | exact HB.out | apply bwA | apply bwN | apply bwD | refine below_set ?_ GE227.out) | exact HB.out)) hb); have n2_ := Aside0.mk (hbox); have n3_ := Aside0.mk ((by rw [hg]; exact (below_size (by repeat (first | (with_reducible first | exact HB.out | apply bwA | apply bwN | apply bwD | refine below_set ?_ GE227.out) | exact HB.out))) : w.heap.size ≤ gb228)); have n4_ := Aside0.mk ((by rw [hg]; exact (below_size (by repeat (first | (with_reducible first | exact HB.out | apply bwA | apply bwN | apply bwD | refine below_set ?_ GE227.out) | exact HB.out))) : w.heap.size ≤ gb228)); have n5_ := Aside0.mk ((by rw [hg]; exact Nat.ne_of_lt (blk_lt (g := gb227) (o := .cells #[.int .i64 a0_0, .slice A0_1 l0_1.length c0_1] 48 (0, 0)) (by (with_reducible repeat (first | refine blk_drewN ?_ _ | refine blk_drew ?_ | refine blk_alloc ?_ _)); exact BK227.out)) : gb227 ≠ gb228)); have n6_ := Aside0.mk ((by rw [hg]; exact Nat.ne_of_gt (blk_lt (g := gb227) (o := .cells #[.int .i64 a0_0, .slice A0_1 l0_1.length c0_1] 48 (0, 0)) (by (with_reducible repeat (first | refine blk_drewN ?_ _ | refine blk_drew ?_ | refine blk_alloc ?_ _)); exact BK227.out)) : gb228 ≠ gb227)); clear BK227; clear HB; have BK227 := n0_; have HB := n1_; have BK228 := n2_; have GW228 := n3_; have GE228 := n4_; have NB227_228 := n5_; have NB228_227 := n6_; clear n0_ n1_ n2_ n3_ n4_ n5_ n6_; clear hb hbox hg; have hnb8 := NB227_228.out; have hnc8 := NB228_227.out; have hcz9_0 : w7.cell? ⟨gb227, 0, none⟩ = some (.int .i64 a0_0) := (blk_cell BK227.out 0).trans rfl; have hcz9_1 : w7.cell? ⟨gb227, 1, none⟩ = some (.slice A0_1 l0_1.length c0_1) := (blk_cell BK227.out 1).trans rfl; have hfz9_0 := blk_frozen BK227.out 0; have hfz9_1 := blk_frozen BK227.out 1; have hcz10_0 : w7.cell? ⟨gb228, 0, none⟩ = some (.int .i64 a1_0) := (blk_cell BK228.out 0).trans rfl; have hcz10_1 : w7.cell? ⟨gb228, 1, none⟩ = some (.slice A1_1 l1_1.length c1_1) := (blk_cell BK228.out 1).trans rfl; have hfz10_0 := blk_frozen BK228.out 0; have hfz10_1 := blk_frozen BK228.out 1) | ((with_reducible refine gate_callee (f := 97) rfl ?_); refine goesL_ (some 14) rfl rfl Try.func97 (by kernel_rfl) rfl #[.slice A0_1 l0_1.length c0_1, .slice A1_1 l1_1.length c1_1] rfl (by (try simp only [List.map_toArray, List.map_cons, List.map_nil]); first | done | rfl | (simp only [List.length_drop, List.length_take]; rfl)) ?_; (with_reducible refine (laws_eqForkS.calls k _ _ l0_1 _ _ l1_1 true _ ?side1 ?side2 ?side3 ?side4 A4.out).mono ?_); (case side1 => repeat (first | exact (Kd.C_below HR0_1.out HB.out) | (with_reducible refine Kd.C_alloc ?_ _) | (with_reducible refine Kd.C_drewN ?_ _) | (with_reducible refine Kd.C_drew ?_))); (case side2 => exact HC0_1.out); (case side3 => repeat (first | exact (Kd.C_below HR1_1.out HB.out) | (with_reducible refine Kd.C_alloc ?_ _) | (with_reducible refine Kd.C_drewN ?_ _) | (with_reducible refine Kd.C_drew ?_))); (case side4 => exact HC1_1.out); rintro e w11 ⟨rfl, hb⟩; refine ⟨_, rfl, ?_⟩; have n0_ := Aside0.mk (blk_below (g := gb227) (o := .cells #[.int .i64 a0_0, .slice A0_1 l0_1.length c0_1] 48 (0, 0)) (by (with_reducible repeat (first | refine blk_drewN ?_ _ | refine blk_drew ?_ | refine blk_alloc ?_ _)); exact BK227.out) hb); have n1_ := Aside0.mk (blk_below (g := gb228) (o := .cells #[.int .i64 a1_0, .slice A1_1 l1_1.length c1_1] 48 (0, 0)) (by (with_reducible repeat (first | refine blk_drewN ?_ _ | refine blk_drew ?_ | refine blk_alloc ?_ _)); exact BK228.out) hb); have n2_ := Aside0.mk (below_step (by repeat (first | (with_reducible first | exact HB.out | apply bwA | apply bwN | apply bwD | refine below_set ?_ GE227.out | refine below_set ?_ GE228.out) | exact HB.out)) hb); clear BK227; clear BK228; clear HB; have BK227 := n0_; have BK228 := n1_; have HB := n2_; clear n0_ n1_ n2_; (try clear hb); (try clear hb2); (try clear hk); (try clear hi)))
   go_ret
   exact ⟨by first | rfl | (simp [errW_none, errW_some] <;> rfl) | (simp [*, errW_none, errW_some] <;> rfl), by repeat (first | (with_reducible first | exact HB.out | apply bwA | apply bwN | apply bwD | refine below_set ?_ GE227.out | refine below_set ?_ GE228.out) | exact HB.out)⟩
  ·replace c5 := Bool.eq_false_iff.mpr c5
   subst c5
   have H1 : (some false) = some r := by rw [if_neg (show ¬ (false = true) by decide)] at H; exact H
   clear H
   have H := H1
   clear H1
   obtain rfl := Option.some.inj H
   go_enter Try.func39, Try.ntmps39
   go_wp2_with (first | ((with_reducible refine gate_dst (N := 2) rfl ?_); refine box_event ?hg (N := 2) ?hd (cs := #[.int .i64 a0_0, .slice A0_1 l0_1.length c0_1]) (t := 48) ?hr ?_; (case hd => rfl); (case hg => rfl); (case hr => first | (go_simp; done) | (go_simp; rfl)); intro gb227 hg w12 hbox hb; have n0_ := Aside0.mk (below_step (by repeat (first | (with_reducible first | exact HB.out | apply bwA | apply bwN | apply bwD) | exact HB.out)) hb); have n1_ := Aside0.mk (hbox); have n2_ := Aside0.mk ((by rw [hg]; exact (below_size (by repeat (first | (with_reducible first | exact HB.out | apply bwA | apply bwN | apply bwD) | exact HB.out))) : w.heap.size ≤ gb227)); have n3_ := Aside0.mk ((by rw [hg]; exact (below_size (by repeat (first | (with_reducible first | exact HB.out | apply bwA | apply bwN | apply bwD) | exact HB.out))) : w.heap.size ≤ gb227)); clear HB; have HB := n0_; have BK227 := n1_; have GW227 := n2_; have GE227 := n3_; clear n0_ n1_ n2_ n3_; clear hb hbox hg) | ((with_reducible refine gate_dst (N := 3) rfl ?_); refine box_event ?hg (N := 3) ?hd (cs := #[.int .i64 a1_0, .slice A1_1 l1_1.length c1_1]) (t := 48) ?hr ?_; (case hd => rfl); (case hg => rfl); (case hr => first | (go_simp; done) | (go_simp; rfl)); intro gb228 hg w13 hbox hb; have n0_ := Aside0.mk (blk_below (g := gb227) (o := .cells #[.int .i64 a0_0, .slice A0_1 l0_1.length c0_1] 48 (0, 0)) (by (with_reducible repeat (first | refine blk_drewN ?_ _ | refine blk_drew ?_ | refine blk_alloc ?_ _)); exact BK227.out) hb); have n1_ := Aside0.mk (below_step (by repeat (first | (with_reducible first | exact HB.out | apply bwA | apply bwN | apply bwD | refine below_set ?_ GE227.out) | exact HB.out)) hb); have n2_ := Aside0.mk (hbox); have n3_ := Aside0.mk ((by rw [hg]; exact (below_size (by repeat (first | (with_reducible first | exact HB.out | apply bwA | apply bwN | apply bwD | refine below_set ?_ GE227.out) | exact HB.out))) : w.heap.size ≤ gb228)); have n4_ := Aside0.mk ((by rw [hg]; exact (below_size (by repeat (first | (with_reducible first | exact HB.out | apply bwA | apply bwN | apply bwD | refine below_set ?_ GE227.out) | exact HB.out))) : w.heap.size ≤ gb228)); have n5_ := Aside0.mk ((by rw [hg]; exact Nat.ne_of_lt (blk_lt (g := gb227) (o := .cells #[.int .i64 a0_0, .slice A0_1 l0_1.length c0_1] 48 (0, 0)) (by (with_reducible repeat (first | refine blk_drewN ?_ _ | refine blk_drew ?_ | refine blk_alloc ?_ _)); exact BK227.out)) : gb227 ≠ gb228)); have n6_ := Aside0.mk ((by rw [hg]; exact Nat.ne_of_gt (blk_lt (g := gb227) (o := .cells #[.int .i64 a0_0, .slice A0_1 l0_1.length c0_1] 48 (0, 0)) (by (with_reducible repeat (first | refine blk_drewN ?_ _ | refine blk_drew ?_ | refine blk_alloc ?_ _)); exact BK227.out)) : gb228 ≠ gb227)); clear BK227; clear HB; have BK227 := n0_; have HB := n1_; have BK228 := n2_; have GW228 := n3_; have GE228 := n4_; have NB227_228 := n5_; have NB228_227 := n6_; clear n0_ n1_ n2_ n3_ n4_ n5_ n6_; clear hb hbox hg; have hnb14 := NB227_228.out; have hnc14 := NB228_227.out; have hcz15_0 : w13.cell? ⟨gb227, 0, none⟩ = some (.int .i64 a0_0) := (blk_cell BK227.out 0).trans rfl; have hcz15_1 : w13.cell? ⟨gb227, 1, none⟩ = some (.slice A0_1 l0_1.length c0_1) := (blk_cell BK227.out 1).trans rfl; have hfz15_0 := blk_frozen BK227.out 0; have hfz15_1 := blk_frozen BK227.out 1; have hcz16_0 : w13.cell? ⟨gb228, 0, none⟩ = some (.int .i64 a1_0) := (blk_cell BK228.out 0).trans rfl; have hcz16_1 : w13.cell? ⟨gb228, 1, none⟩ = some (.slice A1_1 l1_1.length c1_1) := (blk_cell BK228.out 1).trans rfl; have hfz16_0 := blk_frozen BK228.out 0; have hfz16_1 := blk_frozen BK228.out 1) | ((with_reducible refine gate_callee (f := 97) rfl ?_); refine goesL_ (some 14) rfl rfl Try.func97 (by kernel_rfl) rfl #[.slice A0_1 l0_1.length c0_1, .slice A1_1 l1_1.length c1_1] rfl (by (try simp only [List.map_toArray, List.map_cons, List.map_nil]); first | done | rfl | (simp only [List.length_drop, List.length_take]; rfl)) ?_; (with_reducible refine (laws_eqForkS.calls k _ _ l0_1 _ _ l1_1 false _ ?side1 ?side2 ?side3 ?side4 A4.out).mono ?_); (case side1 => repeat (first | exact (Kd.C_below HR0_1.out HB.out) | (with_reducible refine Kd.C_alloc ?_ _) | (with_reducible refine Kd.C_drewN ?_ _) | (with_reducible refine Kd.C_drew ?_))); (case side2 => exact HC0_1.out); (case side3 => repeat (first | exact (Kd.C_below HR1_1.out HB.out) | (with_reducible refine Kd.C_alloc ?_ _) | (with_reducible refine Kd.C_drewN ?_ _) | (with_reducible refine Kd.C_drew ?_))); (case side4 => exact HC1_1.out); rintro e w17 ⟨rfl, hb⟩; refine ⟨_, rfl, ?_⟩; have n0_ := Aside0.mk (blk_below (g := gb227) (o := .cells #[.int .i64 a0_0, .slice A0_1 l0_1.length c0_1] 48 (0, 0)) (by (with_reducible repeat (first | refine blk_drewN ?_ _ | refine blk_drew ?_ | refine blk_alloc ?_ _)); exact BK227.out) hb); have n1_ := Aside0.mk (blk_below (g := gb228) (o := .cells #[.int .i64 a1_0, .slice A1_1 l1_1.length c1_1] 48 (0, 0)) (by (with_reducible repeat (first | refine blk_drewN ?_ _ | refine blk_drew ?_ | refine blk_alloc ?_ _)); exact BK228.out) hb); have n2_ := Aside0.mk (below_step (by repeat (first | (with_reducible first | exact HB.out | apply bwA | apply bwN | apply bwD | refine below_set ?_ GE227.out | refine below_set ?_ GE228.out) | exact HB.out)) hb); clear BK227; clear BK228; clear HB; have BK227 := n0_; have BK228 := n1_; have HB := n2_; clear n0_ n1_ n2_; (try clear hb); (try clear hb2); (try clear hk); (try clear hi)))
   go_ret
   exact ⟨by first | rfl | (simp [errW_none, errW_some] <;> rfl) | (simp [*, errW_none, errW_some] <;> rfl), by repeat (first | (with_reducible first | exact HB.out | apply bwA | apply bwN | apply bwD | refine below_set ?_ GE227.out | refine below_set ?_ GE228.out) | exact HB.out)⟩
 ·rw [if_neg c3] at H
  have c3b0 : (a0_0 == a1_0) = false := beq_eq_false_iff_ne.mpr c3
  have c3b1 : (a0_0 != a1_0) = true := bne_iff_ne.mpr c3
  obtain rfl := Option.some.inj H
  go_enter Try.func39, Try.ntmps39
  go_wp2_with (first | ((with_reducible refine gate_dst (N := 2) rfl ?_); refine box_event ?hg (N := 2) ?hd (cs := #[.int .i64 a0_0, .slice A0_1 l0_1.length c0_1]) (t := 48) ?hr ?_; (case hd => rfl); (case hg => rfl); (case hr => first | (go_simp; done) | (go_simp; rfl)); intro gb227 hg w18 hbox hb; have n0_ := Aside0.mk (below_step (by repeat (first | (with_reducible first | exact HB.out | apply bwA | apply bwN | apply bwD) | exact HB.out)) hb); have n1_ := Aside0.mk (hbox); have n2_ := Aside0.mk ((by rw [hg]; exact (below_size (by repeat (first | (with_reducible first | exact HB.out | apply bwA | apply bwN | apply bwD) | exact HB.out))) : w.heap.size ≤ gb227)); have n3_ := Aside0.mk ((by rw [hg]; exact (below_size (by repeat (first | (with_reducible first | exact HB.out | apply bwA | apply bwN | apply bwD) | exact HB.out))) : w.heap.size ≤ gb227)); clear HB; have HB := n0_; have BK227 := n1_; have GW227 := n2_; have GE227 := n3_; clear n0_ n1_ n2_ n3_; clear hb hbox hg) | ((with_reducible refine gate_dst (N := 3) rfl ?_); refine box_event ?hg (N := 3) ?hd (cs := #[.int .i64 a1_0, .slice A1_1 l1_1.length c1_1]) (t := 48) ?hr ?_; (case hd => rfl); (case hg => rfl); (case hr => first | (go_simp; done) | (go_simp; rfl)); intro gb228 hg w19 hbox hb; have n0_ := Aside0.mk (blk_below (g := gb227) (o := .cells #[.int .i64 a0_0, .slice A0_1 l0_1.length c0_1] 48 (0, 0)) (by (with_reducible repeat (first | refine blk_drewN ?_ _ | refine blk_drew ?_ | refine blk_alloc ?_ _)); exact BK227.out) hb); have n1_ := Aside0.mk (below_step (by repeat (first | (with_reducible first | exact HB.out | apply bwA | apply bwN | apply bwD | refine below_set ?_ GE227.out) | exact HB.out)) hb); have n2_ := Aside0.mk (hbox); have n3_ := Aside0.mk ((by rw [hg]; exact (below_size (by repeat (first | (with_reducible first | exact HB.out | apply bwA | apply bwN | apply bwD | refine below_set ?_ GE227.out) | exact HB.out))) : w.heap.size ≤ gb228)); have n4_ := Aside0.mk ((by rw [hg]; exact (below_size (by repeat (first | (with_reducible first | exact HB.out | apply bwA | apply bwN | apply bwD | refine below_set ?_ GE227.out) | exact HB.out))) : w.heap.size ≤ gb228)); have n5_ := Aside0.mk ((by rw [hg]; exact Nat.ne_of_lt (blk_lt (g := gb227) (o := .cells #[.int .i64 a0_0, .slice A0_1 l0_1.length c0_1] 48 (0, 0)) (by (with_reducible repeat (first | refine blk_drewN ?_ _ | refine blk_drew ?_ | refine blk_alloc ?_ _)); exact BK227.out)) : gb227 ≠ gb228)); have n6_ := Aside0.mk ((by rw [hg]; exact Nat.ne_of_gt (blk_lt (g := gb227) (o := .cells #[.int .i64 a0_0, .slice A0_1 l0_1.length c0_1] 48 (0, 0)) (by (with_reducible repeat (first | refine blk_drewN ?_ _ | refine blk_drew ?_ | refine blk_alloc ?_ _)); exact BK227.out)) : gb228 ≠ gb227)); clear BK227; clear HB; have BK227 := n0_; have HB := n1_; have BK228 := n2_; have GW228 := n3_; have GE228 := n4_; have NB227_228 := n5_; have NB228_227 := n6_; clear n0_ n1_ n2_ n3_ n4_ n5_ n6_; clear hb hbox hg; have hnb20 := NB227_228.out; have hnc20 := NB228_227.out; have hcz21_0 : w19.cell? ⟨gb227, 0, none⟩ = some (.int .i64 a0_0) := (blk_cell BK227.out 0).trans rfl; have hcz21_1 : w19.cell? ⟨gb227, 1, none⟩ = some (.slice A0_1 l0_1.length c0_1) := (blk_cell BK227.out 1).trans rfl; have hfz21_0 := blk_frozen BK227.out 0; have hfz21_1 := blk_frozen BK227.out 1; have hcz22_0 : w19.cell? ⟨gb228, 0, none⟩ = some (.int .i64 a1_0) := (blk_cell BK228.out 0).trans rfl; have hcz22_1 : w19.cell? ⟨gb228, 1, none⟩ = some (.slice A1_1 l1_1.length c1_1) := (blk_cell BK228.out 1).trans rfl; have hfz22_0 := blk_frozen BK228.out 0; have hfz22_1 := blk_frozen BK228.out 1))
  go_ret
  exact ⟨by first | rfl | (simp [errW_none, errW_some] <;> rfl) | (simp [*, errW_none, errW_some] <;> rfl), by repeat (first | (with_reducible first | exact HB.out | apply bwA | apply bwN | apply bwD | refine below_set ?_ GE227.out | refine below_set ?_ GE228.out) | exact HB.out)⟩

/-! ### laws_markForkS: function 98 -/
def laws_markForkS.l0 : Nat → List (S56) → Int → Int → Option (Int × (List (S56)))
 | 0, _, _, _ => none
 | k + 1, x0, x1, x5 => if x5 < (x0.length : Int) then (if 0 ≤ x5 then ((some (x0.set (x5 : Int).toNat (⟨x1, (rd_T56 x0 x5).f1, (rd_T56 x0 x5).f2⟩ : S56) : List (S56))).bind fun y230 => ((some (y230.set (x5 : Int).toNat (⟨(rd_T56 y230 x5).f0, wrap64 (x1 + 1), (rd_T56 y230 x5).f2⟩ : S56) : List (S56))).bind fun y231 => (laws_markForkS.l0 k (y231.set (x5 : Int).toNat (⟨(rd_T56 y231 x5).f0, (rd_T56 y231 x5).f1, wrap64 ((wrap64 (x1 + 1)) + 1)⟩ : S56)) (wrap64 ((wrap64 ((wrap64 (x1 + 1)) + 1)) + 1)) (wrap64 (x5 + 1))))) else (none)) else (some (x1, x0))
def laws_markForkS.f (k : Nat) (l0 : List (S56)) (a1 : Int) : Option (Int × (List (S56))) := laws_markForkS.l0 k l0 a1 0
theorem laws_markForkS.mono_l : ∀ k, (∀ y0 y1 y2, LeO (laws_markForkS.l0 k y0 y1 y2) (laws_markForkS.l0 (k + 1) y0 y1 y2))
 | 0 => fun _ _ _ r h => by simp [laws_markForkS.l0] at h
 | k + 1 => by
  have ih0 := laws_markForkS.mono_l k
  ·intro y0 y1 y2
   unfold laws_markForkS.l0
   repeat' first
   | (with_reducible exact ih0 _ _ _)
   | (with_reducible exact LeO.refl _)
   | (with_reducible exact LeO.none _)
   | (with_reducible refine LeO.ite ?_ ?_)
   | (with_reducible refine LeO.bind ?_ (fun _ => ?_))
   | exact ih0 _ _ _
   | exact LeO.none _
   | refine LeO.ite ?_ ?_
   | refine LeO.bind ?_ (fun _ => ?_)
theorem laws_markForkS.mono : ∀ a0 a1 k, LeO (laws_markForkS.f k a0 a1) (laws_markForkS.f (k + 1) a0 a1) := by
 intro a0 a1 k
 have ih0 := laws_markForkS.mono_l k
 unfold laws_markForkS.f
 repeat' first
   | (with_reducible exact ih0 _ _ _)
   | (with_reducible exact LeO.refl _)
   | (with_reducible exact LeO.none _)
   | (with_reducible refine LeO.ite ?_ ?_)
   | (with_reducible refine LeO.bind ?_ (fun _ => ?_))
   | exact ih0 _ _ _
   | exact LeO.none _
   | refine LeO.ite ?_ ?_
   | refine LeO.bind ?_ (fun _ => ?_)
set_option maxHeartbeats 8000000 in
set_option maxRecDepth 100000 in
theorem laws_markForkS.calls (k : Nat) (P0_ : Nat → Prop) (u9000_ : Value) (l0 : List (S56)) (a1 : Int) (r1 : Int) (r2 : List (S56)) (w0 w : World) (hB : Below w0.heap.size w0 w) (ho0 : Kd.R k56 56 w w0.heap.size P0_ u9000_ l0) (h : laws_markForkS.f k l0 a1 = some (r1, r2)) :
  Calls Try.prog 98 #[u9000_, .int .i64 a1] w fun e w' => e = .returned (.int .i64 r1) ∧ Kd.R k56 56 w' w0.heap.size (fun k_ => (P0_ k_ ∨ w.heap.size ≤ k_)) u9000_ r2 ∧ Below w0.heap.size w0 w' ∧ Kept w w' (fun k_ => P0_ k_) := by
 have HO0 := Aside0.mk (show Kd.R k56 56 w w0.heap.size (fun k_ => (P0_ k_ ∨ w.heap.size ≤ k_)) u9000_ l0 from Kd.R_mono ho0 (fun k_ hk => (.inl hk)))
 have HK := Aside0.mk (Kept.refl w (fun k_ => P0_ k_))
 have HW0 := Aside0.mk hB.size
 have HB := Aside0.mk hB
 clear hB
 have H : (laws_markForkS.l0 k l0 a1 0) = some (r1, r2) := h
 clear h
 have H' := Aside0.mk H
 clear H
 go_enter Try.func98, Try.ntmps98
 go_wp2
 go_loopg [1, 5] k (fun kq v1 v5 w' => ∃ (x0_1 : List (S56)) (x1_1 : Int) (x5_1 : Int), v1 = .int .i64 x1_1 ∧ v5 = .int .i64 x5_1 ∧ Aside0 (laws_markForkS.l0 kq x0_1 x1_1 x5_1 = some (r1, r2)) ∧ Aside0 (kq ≤ k) ∧ Aside0 (Kd.R k56 56 w' w0.heap.size (fun k_ => (P0_ k_ ∨ w.heap.size ≤ k_)) u9000_ x0_1) ∧ Aside0 (Kept w w' (fun k_ => P0_ k_)) ∧ Aside0 (Below w0.heap.size w0 w'))
 case atStart => exact ⟨(l0), (a1), (0), (by first | rfl | (simp; done) | (simp [*]; done)), (by first | rfl | (simp; done) | (simp [*]; done)), H', ⟨Nat.le_refl _⟩, ⟨by (with_reducible repeat (first | apply Kd.R_alloc | apply Kd.R_drewN | apply Kd.R_drew)); exact HO0.out⟩, ⟨by repeat (first | (with_reducible first | exact HK.out | apply Kept.alloc | apply Kept.drewN | apply Kept.drew) | exact HK.out)⟩, ⟨by repeat (first | (with_reducible first | exact HB.out | apply bwA | apply bwN | apply bwD) | exact HB.out)⟩⟩
 case round =>
  clear H'
  try clear p2
  obtain ⟨x0_1, x1_1, x5_1, rfl, rfl, HA, HK1, HO_0, HK, HB⟩ := hrel
  cases gk with
  | zero => exact absurd HA.out (by simp [laws_markForkS.l0])
  | succ k1 =>
   have H := HA.out
   clear HA
   simp only [laws_markForkS.l0] at H
   by_cases c3 : x5_1 < (x0_1.length : Int)
   ·rw [if_pos c3] at H
    have c3b0 : decide (x5_1 < (x0_1.length : Int)) = true := decide_eq_true c3
    clear c3
    by_cases c4 : 0 ≤ x5_1
    ·rw [if_pos c4] at H
     have c4b0 : decide (0 ≤ x5_1) = true := decide_eq_true c4
     clear c4
     obtain ⟨y230, hy230⟩ : ∃ y_ : List (S56), y_ = (x0_1.set (x5_1 : Int).toNat (⟨x1_1, (rd_T56 x0_1 x5_1).f1, (rd_T56 x0_1 x5_1).f2⟩ : S56)) := ⟨_, rfl⟩
     replace H : ((some (y230.set (x5_1 : Int).toNat (⟨(rd_T56 y230 x5_1).f0, wrap64 (x1_1 + 1), (rd_T56 y230 x5_1).f2⟩ : S56) : List (S56))).bind fun y231 => (laws_markForkS.l0 k1 (y231.set (x5_1 : Int).toNat (⟨(rd_T56 y231 x5_1).f0, (rd_T56 y231 x5_1).f1, wrap64 ((wrap64 (x1_1 + 1)) + 1)⟩ : S56)) (wrap64 ((wrap64 ((wrap64 (x1_1 + 1)) + 1)) + 1)) (wrap64 (x5_1 + 1)))) = some (r1, r2) := by first | (rw [hy230]; with_reducible exact H) | (have H2_ := (Option.bind_some _ _).symm.trans H; rw [hy230]; with_reducible exact H2_) | (have H2_ := (Option.bind_some _ _).symm.trans H; with_reducible exact H2_) | with_reducible exact H | (rw [hy230]; exact H) | exact H
     have Ny230 := Aside0.mk hy230
     clear hy230
     obtain ⟨y231, hy231⟩ : ∃ y_ : List (S56), y_ = (y230.set (x5_1 : Int).toNat (⟨(rd_T56 y230 x5_1).f0, wrap64 (x1_1 + 1), (rd_T56 y230 x5_1).f2⟩ : S56)) := ⟨_, rfl⟩
     replace H : (laws_markForkS.l0 k1 (y231.set (x5_1 : Int).toNat (⟨(rd_T56 y231 x5_1).f0, (rd_T56 y231 x5_1).f1, wrap64 ((wrap64 (x1_1 + 1)) + 1)⟩ : S56)) (wrap64 ((wrap64 ((wrap64 (x1_1 + 1)) + 1)) + 1)) (wrap64 (x5_1 + 1))) = some (r1, r2) := by first | (rw [hy231]; with_reducible exact H) | (have H2_ := (Option.bind_some _ _).symm.trans H; rw [hy231]; with_reducible exact H2_) | (have H2_ := (Option.bind_some _ _).symm.trans H; with_reducible exact H2_) | with_reducible exact H | (rw [hy231]; exact H) | exact H
     have Ny231 := Aside0.mk hy231
     clear hy231
     obtain ⟨y232, hy232⟩ : ∃ y_ : List (S56), y_ = (y231.set (x5_1 : Int).toNat (⟨(rd_T56 y231 x5_1).f0, (rd_T56 y231 x5_1).f1, wrap64 ((wrap64 (x1_1 + 1)) + 1)⟩ : S56)) := ⟨_, rfl⟩
     replace H : (laws_markForkS.l0 k1 y232 (wrap64 ((wrap64 ((wrap64 (x1_1 + 1)) + 1)) + 1)) (wrap64 (x5_1 + 1))) = some (r1, r2) := by first | (rw [hy232]; with_reducible exact H) | (have H2_ := (Option.bind_some _ _).symm.trans H; rw [hy232]; with_reducible exact H2_) | (have H2_ := (Option.bind_some _ _).symm.trans H; with_reducible exact H2_) | with_reducible exact H | (rw [hy232]; exact H) | exact H
     have Ny232 := Aside0.mk hy232
     clear hy232
     have H' := Aside0.mk H
     clear H
     obtain ⟨Ao8, co8, eo8⟩ := Kd.R_slice HO_0.out
     subst eo8
     have p5 : 0 ≤ (x5_1 : Int) := of_decide_eq_true (by first | (with_reducible assumption) | assumption)
     have q5 : (x5_1 : Int) < ((x0_1.length : Int) : Int) := of_decide_eq_true (by first | (with_reducible assumption) | assumption)
     obtain ⟨go5, co5, eo5, gb5, gl5, cl5, HG5⟩ := Kd.R_form HO_0.out (by omega)
     (first | cases eo5 | (injection eo5 with ea_ en_ ec_; (first | subst ea_ | (injection ea_ with ea_; subst ea_)); subst ec_; clear en_))
     have GB5 := Aside0.mk gb5
     have GG5 := Aside0.mk HG5
     clear gb5 gl5 HG5
     have HMgo5 := Aside0.mk (show (P0_ go5 ∨ w.heap.size ≤ go5) from (HO_0.out.1 _ rfl))
     obtain ⟨ce5, hcl5, hM5, hcc5, hfr5⟩ := Kd.R_elem HO_0.out z56 (x5_1 : Int) p5 q5
     obtain rfl := k56_openM hM5
     have hx5_0 : wr.cell? ⟨go5, (x5_1 : Int).toNat * 3, none⟩ = some (.int .i64 ((rd_T56 x0_1 x5_1).f0)) := hcc5 0 _ rfl
     have hx5_1 : wr.cell? ⟨go5, (x5_1 : Int).toNat * 3 + 1, none⟩ = some (.int .i64 ((rd_T56 x0_1 x5_1).f1)) := hcc5 1 _ rfl
     have hx5_2 : wr.cell? ⟨go5, (x5_1 : Int).toNat * 3 + 2, none⟩ = some (.int .i64 ((rd_T56 x0_1 x5_1).f2)) := hcc5 2 _ rfl
     have hf5_0 : wr.frozen? ⟨go5, (x5_1 : Int).toNat * 3, none⟩ = false := hfr5 0
     have hf5_1 : wr.frozen? ⟨go5, (x5_1 : Int).toNat * 3 + 1, none⟩ = false := hfr5 1
     have hf5_2 : wr.frozen? ⟨go5, (x5_1 : Int).toNat * 3 + 2, none⟩ = false := hfr5 2
     clear hcl5 hcc5 hfr5; (try clear hM5)
     replace p5 := eq_true p5
     replace q5 := eq_true q5
     have HX9 := Aside0.mk (show Kd.R k56 56 wr w0.heap.size (fun k_ => (P0_ k_ ∨ w.heap.size ≤ k_)) (.slice (some ⟨go5, 0, none⟩) x0_1.length co8) x0_1 from (by (with_reducible repeat (first | apply Kd.R_alloc | apply Kd.R_drewN | apply Kd.R_drew)); exact HO_0.out))
     obtain ⟨ce9, hcl9, hM9, hcc9, hfr9⟩ := Kd.R_elem HX9.out z56 (x5_1 : Int) (of_decide_eq_true (by first | (with_reducible assumption) | assumption)) (by have h_ : (x5_1 : Int) < ((x0_1.length : Int) : Int) := of_decide_eq_true (by first | (with_reducible assumption) | assumption); first | exact h_ | (have e_ := (Kd.R_reads' HO_0.out).1; omega) | simpa using h_)
     obtain rfl := k56_openM hM9
     have HP9 := Kd.R_seg HX9.out (x5_1 : Int) (of_decide_eq_true (by first | (with_reducible assumption) | assumption)) (by have h_ : (x5_1 : Int) < ((x0_1.length : Int) : Int) := of_decide_eq_true (by first | (with_reducible assumption) | assumption); first | exact h_ | (have e_ := (Kd.R_reads' HO_0.out).1; omega) | simpa using h_) (seg := [.int .i64 x1_1]) (j := 0) hcl9 hcc9 (show 1 ≤ 3 from by decide) (x' := (⟨x1_1, (rd_T56 x0_1 x5_1).f1, (rd_T56 x0_1 x5_1).f2⟩ : S56)) (k56_mkM _ _ _ (⟨x1_1, (rd_T56 x0_1 x5_1).f1, (rd_T56 x0_1 x5_1).f2⟩ : S56) ) (fun _ hk => hk)
     have hx9_0 := hcc9 0 _ rfl
     (try simp only [show (k56).sz = 3 from rfl, Nat.mul_one, Nat.add_zero] at hx9_0)
     have hf9_0 := hfr9 0
     (try simp only [show (k56).sz = 3 from rfl, Nat.mul_one, Nat.add_zero] at hf9_0)
     clear hcl9 hcc9 hfr9; (try clear hM9)
     go_wp2_with (first | ((with_reducible refine gate_store (t := 3) (p := 16) rfl ?_); refine store_event (t := 3) (p := 16) (v := ?vo_w10) (w1 := (wr.setCell ⟨go5, (x5_1 : Int).toNat * 3, none⟩ (.int .i64 x1_1))) ?hg ?ho ?hn ?hr ?_; (case ho => rfl); (case hg => rfl); (case hn => rfl); (case hr => first | (go_simp; done) | (go_simp; rfl)); intro w10 hw; have hg : wr.grownBy w10 (some go5) := (by rw [hw]; exact HP9.2); have hp_ : Kd.R k56 56 w10 w0.heap.size (fun k_ => (P0_ k_ ∨ w.heap.size ≤ k_)) (.slice (some ⟨go5, 0, none⟩) x0_1.length co8) y230 := (by rw [hw, Ny230.out]; exact HP9.1); clear HP9; have n0_ := Aside0.mk (hp_); have n1_ := Aside0.mk ((by rw [hw]; exact below_set (HB.out) GB5.out : Below w0.heap.size w0 w10)); have n2_ := Aside0.mk (Kept.of_grown (S := (fun k_ => P0_ k_)) hg (by repeat (first | (with_reducible first | exact HK.out | apply Kept.alloc | apply Kept.drewN | apply Kept.drew) | exact HK.out)) (fun k_ e_ => (HO_0.out.1 k_ e_))); clear HO_0; clear HB; clear HK; have HO_0 := n0_; have HB := n1_; have HK := n2_; clear n0_ n1_ n2_; clear hg hw hp_; have p6 : 0 ≤ (x5_1 : Int) := of_decide_eq_true (by first | (with_reducible assumption) | assumption); have q6 : (x5_1 : Int) < ((x0_1.length : Int) : Int) := of_decide_eq_true (by first | (with_reducible assumption) | assumption); obtain ⟨ce6, hcl6, hM6, hcc6, hfr6⟩ := Kd.R_elem HO_0.out z56 (x5_1 : Int) p6 q6; obtain rfl := k56_openM hM6; have hx6_0 : w10.cell? ⟨go5, (x5_1 : Int).toNat * 3, none⟩ = some (.int .i64 ((rd_T56 y230 x5_1).f0)) := hcc6 0 _ rfl; have hx6_1 : w10.cell? ⟨go5, (x5_1 : Int).toNat * 3 + 1, none⟩ = some (.int .i64 ((rd_T56 y230 x5_1).f1)) := hcc6 1 _ rfl; have hx6_2 : w10.cell? ⟨go5, (x5_1 : Int).toNat * 3 + 2, none⟩ = some (.int .i64 ((rd_T56 y230 x5_1).f2)) := hcc6 2 _ rfl; have hf6_0 : w10.frozen? ⟨go5, (x5_1 : Int).toNat * 3, none⟩ = false := hfr6 0; have hf6_1 : w10.frozen? ⟨go5, (x5_1 : Int).toNat * 3 + 1, none⟩ = false := hfr6 1; have hf6_2 : w10.frozen? ⟨go5, (x5_1 : Int).toNat * 3 + 2, none⟩ = false := hfr6 2; clear hcl6 hcc6 hfr6; (try clear hM6); replace p6 := eq_true p6; replace q6 := eq_true q6; have HX11 := Aside0.mk (show Kd.R k56 56 w10 w0.heap.size (fun k_ => (P0_ k_ ∨ w.heap.size ≤ k_)) (.slice (some ⟨go5, 0, none⟩) x0_1.length co8) y230 from (by (with_reducible repeat (first | apply Kd.R_alloc | apply Kd.R_drewN | apply Kd.R_drew)); exact HO_0.out)); obtain ⟨ce11, hcl11, hM11, hcc11, hfr11⟩ := Kd.R_elem HX11.out z56 (x5_1 : Int) (of_decide_eq_true (by first | (with_reducible assumption) | assumption)) (by have h_ : (x5_1 : Int) < ((x0_1.length : Int) : Int) := of_decide_eq_true (by first | (with_reducible assumption) | assumption); first | exact h_ | (have e_ := (Kd.R_reads' HO_0.out).1; omega) | simpa using h_); obtain rfl := k56_openM hM11; have HP11 := Kd.R_seg HX11.out (x5_1 : Int) (of_decide_eq_true (by first | (with_reducible assumption) | assumption)) (by have h_ : (x5_1 : Int) < ((x0_1.length : Int) : Int) := of_decide_eq_true (by first | (with_reducible assumption) | assumption); first | exact h_ | (have e_ := (Kd.R_reads' HO_0.out).1; omega) | simpa using h_) (seg := [.int .i64 (wrap64 (x1_1 + 1))]) (j := 1) hcl11 hcc11 (show 2 ≤ 3 from by decide) (x' := (⟨(rd_T56 y230 x5_1).f0, wrap64 (x1_1 + 1), (rd_T56 y230 x5_1).f2⟩ : S56)) (k56_mkM _ _ _ (⟨(rd_T56 y230 x5_1).f0, wrap64 (x1_1 + 1), (rd_T56 y230 x5_1).f2⟩ : S56) ) (fun _ hk => hk); have hx11_1 := hcc11 1 _ rfl; (try simp only [show (k56).sz = 3 from rfl, Nat.mul_one, Nat.add_zero] at hx11_1); have hf11_1 := hfr11 1; (try simp only [show (k56).sz = 3 from rfl, Nat.mul_one, Nat.add_zero] at hf11_1); clear hcl11 hcc11 hfr11; (try clear hM11)) | ((with_reducible refine gate_store (t := 3) (p := 23) rfl ?_); refine store_event (t := 3) (p := 23) (v := ?vo_w12) (w1 := (w10.setCell ⟨go5, (x5_1 : Int).toNat * 3 + 1, none⟩ (.int .i64 (wrap64 (x1_1 + 1))))) ?hg ?ho ?hn ?hr ?_; (case ho => rfl); (case hg => rfl); (case hn => rfl); (case hr => first | (go_simp; done) | (go_simp; rfl)); intro w12 hw; have hg : w10.grownBy w12 (some go5) := (by rw [hw]; exact HP11.2); have hp_ : Kd.R k56 56 w12 w0.heap.size (fun k_ => (P0_ k_ ∨ w.heap.size ≤ k_)) (.slice (some ⟨go5, 0, none⟩) x0_1.length co8) y231 := (by rw [hw, Ny231.out]; exact HP11.1); clear HP11; have n0_ := Aside0.mk (hp_); have n1_ := Aside0.mk ((by rw [hw]; exact below_set (HB.out) GB5.out : Below w0.heap.size w0 w12)); have n2_ := Aside0.mk (Kept.of_grown (S := (fun k_ => P0_ k_)) hg (by repeat (first | (with_reducible first | exact HK.out | apply Kept.alloc | apply Kept.drewN | apply Kept.drew) | exact HK.out)) (fun k_ e_ => (HO_0.out.1 k_ e_))); clear HO_0; clear HB; clear HK; have HO_0 := n0_; have HB := n1_; have HK := n2_; clear n0_ n1_ n2_; clear hg hw hp_; have p7 : 0 ≤ (x5_1 : Int) := of_decide_eq_true (by first | (with_reducible assumption) | assumption); have q7 : (x5_1 : Int) < ((x0_1.length : Int) : Int) := of_decide_eq_true (by first | (with_reducible assumption) | assumption); obtain ⟨ce7, hcl7, hM7, hcc7, hfr7⟩ := Kd.R_elem HO_0.out z56 (x5_1 : Int) p7 q7; obtain rfl := k56_openM hM7; have hx7_0 : w12.cell? ⟨go5, (x5_1 : Int).toNat * 3, none⟩ = some (.int .i64 ((rd_T56 y231 x5_1).f0)) := hcc7 0 _ rfl; have hx7_1 : w12.cell? ⟨go5, (x5_1 : Int).toNat * 3 + 1, none⟩ = some (.int .i64 ((rd_T56 y231 x5_1).f1)) := hcc7 1 _ rfl; have hx7_2 : w12.cell? ⟨go5, (x5_1 : Int).toNat * 3 + 2, none⟩ = some (.int .i64 ((rd_T56 y231 x5_1).f2)) := hcc7 2 _ rfl; have hf7_0 : w12.frozen? ⟨go5, (x5_1 : Int).toNat * 3, none⟩ = false := hfr7 0; have hf7_1 : w12.frozen? ⟨go5, (x5_1 : Int).toNat * 3 + 1, none⟩ = false := hfr7 1; have hf7_2 : w12.frozen? ⟨go5, (x5_1 : Int).toNat * 3 + 2, none⟩ = false := hfr7 2; clear hcl7 hcc7 hfr7; (try clear hM7); replace p7 := eq_true p7; replace q7 := eq_true q7; have HX13 := Aside0.mk (show Kd.R k56 56 w12 w0.heap.size (fun k_ => (P0_ k_ ∨ w.heap.size ≤ k_)) (.slice (some ⟨go5, 0, none⟩) x0_1.length co8) y231 from (by (with_reducible repeat (first | apply Kd.R_alloc | apply Kd.R_drewN | apply Kd.R_drew)); exact HO_0.out)); obtain ⟨ce13, hcl13, hM13, hcc13, hfr13⟩ := Kd.R_elem HX13.out z56 (x5_1 : Int) (of_decide_eq_true (by first | (with_reducible assumption) | assumption)) (by have h_ : (x5_1 : Int) < ((x0_1.length : Int) : Int) := of_decide_eq_true (by first | (with_reducible assumption) | assumption); first | exact h_ | (have e_ := (Kd.R_reads' HO_0.out).1; omega) | simpa using h_); obtain rfl := k56_openM hM13; have HP13 := Kd.R_seg HX13.out (x5_1 : Int) (of_decide_eq_true (by first | (with_reducible assumption) | assumption)) (by have h_ : (x5_1 : Int) < ((x0_1.length : Int) : Int) := of_decide_eq_true (by first | (with_reducible assumption) | assumption); first | exact h_ | (have e_ := (Kd.R_reads' HO_0.out).1; omega) | simpa using h_) (seg := [.int .i64 (wrap64 ((wrap64 (x1_1 + 1)) + 1))]) (j := 2) hcl13 hcc13 (show 3 ≤ 3 from by decide) (x' := (⟨(rd_T56 y231 x5_1).f0, (rd_T56 y231 x5_1).f1, wrap64 ((wrap64 (x1_1 + 1)) + 1)⟩ : S56)) (k56_mkM _ _ _ (⟨(rd_T56 y231 x5_1).f0, (rd_T56 y231 x5_1).f1, wrap64 ((wrap64 (x1_1 + 1)) + 1)⟩ : S56) ) (fun _ hk => hk); have hx13_2 := hcc13 2 _ rfl; (try simp only [show (k56).sz = 3 from rfl, Nat.mul_one, Nat.add_zero] at hx13_2); have hf13_2 := hfr13 2; (try simp only [show (k56).sz = 3 from rfl, Nat.mul_one, Nat.add_zero] at hf13_2); clear hcl13 hcc13 hfr13; (try clear hM13)) | ((with_reducible refine gate_store (t := 3) (p := 30) rfl ?_); refine store_event (t := 3) (p := 30) (v := ?vo_w14) (w1 := (w12.setCell ⟨go5, (x5_1 : Int).toNat * 3 + 2, none⟩ (.int .i64 (wrap64 ((wrap64 (x1_1 + 1)) + 1))))) ?hg ?ho ?hn ?hr ?_; (case ho => rfl); (case hg => rfl); (case hn => rfl); (case hr => first | (go_simp; done) | (go_simp; rfl)); intro w14 hw; have hg : w12.grownBy w14 (some go5) := (by rw [hw]; exact HP13.2); have hp_ : Kd.R k56 56 w14 w0.heap.size (fun k_ => (P0_ k_ ∨ w.heap.size ≤ k_)) (.slice (some ⟨go5, 0, none⟩) x0_1.length co8) y232 := (by rw [hw, Ny232.out]; exact HP13.1); clear HP13; have n0_ := Aside0.mk (hp_); have n1_ := Aside0.mk ((by rw [hw]; exact below_set (HB.out) GB5.out : Below w0.heap.size w0 w14)); have n2_ := Aside0.mk (Kept.of_grown (S := (fun k_ => P0_ k_)) hg (by repeat (first | (with_reducible first | exact HK.out | apply Kept.alloc | apply Kept.drewN | apply Kept.drew) | exact HK.out)) (fun k_ e_ => (HO_0.out.1 k_ e_))); clear HO_0; clear HB; clear HK; have HO_0 := n0_; have HB := n1_; have HK := n2_; clear n0_ n1_ n2_; clear hg hw hp_))
     go_roundg k1
     case measure => have := HK1.out; omega
     case rel => exact ⟨(y232), (wrap64 ((wrap64 ((wrap64 (x1_1 + 1)) + 1)) + 1)), (wrap64 (x5_1 + 1)), (by first | rfl | (simp; done) | (simp [*]; done)), (by first | rfl | (simp; done) | (simp [*]; done)), H', ⟨by have := HK1.out; omega⟩, ⟨by (with_reducible repeat (first | apply Kd.R_alloc | apply Kd.R_drewN | apply Kd.R_drew)); exact HO_0.out⟩, ⟨by repeat (first | (with_reducible first | exact HK.out | apply Kept.alloc | apply Kept.drewN | apply Kept.drew) | exact HK.out)⟩, ⟨by repeat (first | (with_reducible first | exact HB.out | apply bwA | apply bwN | apply bwD) | exact HB.out)⟩⟩
    ·rw [if_neg c4] at H
     exact absurd H (by simp)
   ·rw [if_neg c3] at H
    have c3b0 : decide (x5_1 < (x0_1.length : Int)) = false := decide_eq_false c3
    clear c3
    simp only [Option.some.injEq, Prod.mk.injEq] at H
    obtain ⟨rfl, rfl⟩ := H
    obtain ⟨Ao15, co15, eo15⟩ := Kd.R_slice HO_0.out
    subst eo15
    go_wp2
    go_ret
    exact ⟨by first | rfl | (simp [errW_none, errW_some] <;> rfl) | (simp [*, errW_none, errW_some] <;> rfl), by (with_reducible repeat (first | apply Kd.R_alloc | apply Kd.R_drewN | apply Kd.R_drew)); exact HO_0.out, by repeat (first | (with_reducible first | exact HB.out | apply bwA | apply bwN | apply bwD) | exact HB.out), by repeat (first | (with_reducible first | exact HK.out | apply Kept.alloc | apply Kept.drewN | apply Kept.drew) | exact HK.out)⟩

/-! ### laws_markDiagram: function 40 -/
def laws_markDiagram.f (k : Nat) (a0_0 : Int) (l0_1 : List (S56)) (a1 : Int) : Option (Int × (List (S56))) := (laws_markForkS.f k l0_1 a1).bind fun bt234 => (some (bt234.1, bt234.2))
theorem laws_markDiagram.mono : ∀ a0 a1 a2 k, LeO (laws_markDiagram.f k a0 a1 a2) (laws_markDiagram.f (k + 1) a0 a1 a2) := by
 intro a0 a1 a2 k
 unfold laws_markDiagram.f
 repeat' first
   | (with_reducible exact laws_markForkS.mono _ _ _)
   | (with_reducible exact LeO.refl _)
   | (with_reducible exact LeO.none _)
   | (with_reducible refine LeO.ite ?_ ?_)
   | (with_reducible refine LeO.bind ?_ (fun _ => ?_))
   | exact laws_markForkS.mono _ _ _
   | exact LeO.none _
   | refine LeO.ite ?_ ?_
   | refine LeO.bind ?_ (fun _ => ?_)
set_option maxHeartbeats 8000000 in
set_option maxRecDepth 100000 in
theorem laws_markDiagram.calls (k : Nat) (a0_0 : Int) (P0_1_ : Nat → Prop) (u9000_ : Value) (l0_1 : List (S56)) (a1 : Int) (r1 : Int) (r2 : List (S56)) (w0 w : World) (hB : Below w0.heap.size w0 w) (ho0_1 : Kd.R k56 56 w w0.heap.size P0_1_ u9000_ l0_1) (h : laws_markDiagram.f k a0_0 l0_1 a1 = some (r1, r2)) :
  Calls Try.prog 40 #[.agg #[.int .i64 a0_0, u9000_], .int .i64 a1] w fun e w' => e = .returned (.int .i64 r1) ∧ Kd.R k56 56 w' w0.heap.size (fun k_ => (P0_1_ k_ ∨ w.heap.size ≤ k_)) u9000_ r2 ∧ Below w0.heap.size w0 w' ∧ Kept w w' (fun k_ => P0_1_ k_) := by
 have hu48 := Try.underlying48
 have HO0_1 := Aside0.mk (show Kd.R k56 56 w w0.heap.size (fun k_ => (P0_1_ k_ ∨ w.heap.size ≤ k_)) u9000_ l0_1 from Kd.R_mono ho0_1 (fun k_ hk => (.inl hk)))
 have HK := Aside0.mk (Kept.refl w (fun k_ => P0_1_ k_))
 have HW0 := Aside0.mk hB.size
 have HB := Aside0.mk hB
 clear hB
 have H : ((laws_markForkS.f k l0_1 a1).bind fun bt234 => (some (bt234.1, bt234.2))) = some (r1, r2) := h
 clear h
 replace H := Option.bind_eq_some_iff.mp H
 obtain ⟨⟨t234, t235⟩, A30, H⟩ := H
 replace H : (some (t234, t235)) = some (r1, r2) := H
 have A3 := Aside0.mk A30
 clear A30
 simp only [Option.some.injEq, Prod.mk.injEq] at H
 obtain ⟨rfl, rfl⟩ := H
 obtain ⟨Ao4, co4, eo4⟩ := Kd.R_slice HO0_1.out
 subst eo4
 go_enter Try.func40, Try.ntmps40
 go_wp2_with (first | ((with_reducible refine gate_dst (N := 2) rfl ?_); refine box_event ?hg (N := 2) ?hd (cs := #[.int .i64 a0_0, .slice Ao4 l0_1.length co4]) (t := 48) ?hr ?_; (case hd => rfl); (case hg => rfl); (case hr => first | (go_simp; done) | (go_simp; rfl)); intro gb233 hg w5 hbox hb; have n0_ := Aside0.mk (Kd.R_below (by (with_reducible repeat (first | apply Kd.R_alloc | apply Kd.R_drewN | apply Kd.R_drew)); exact HO0_1.out) hb); have n1_ := Aside0.mk (Kept.below (S := (fun k_ => P0_1_ k_)) (by repeat (first | (with_reducible first | exact HK.out | apply Kept.alloc | apply Kept.drewN | apply Kept.drew) | exact HK.out)) hb); have n2_ := Aside0.mk (below_step (by repeat (first | (with_reducible first | exact HB.out | apply bwA | apply bwN | apply bwD) | exact HB.out)) hb); have n3_ := Aside0.mk (hbox); have n4_ := Aside0.mk ((by rw [hg]; exact (by first | exact HK.out.1 | exact (show Kept w _ (fun k_ => P0_1_ k_) from by repeat (first | (with_reducible first | exact HK.out | apply Kept.alloc | apply Kept.drewN | apply Kept.drew) | exact HK.out)).1) : w.heap.size ≤ gb233)); have n5_ := Aside0.mk ((by rw [hg]; exact (below_size (by repeat (first | (with_reducible first | exact HB.out | apply bwA | apply bwN | apply bwD) | exact HB.out))) : w0.heap.size ≤ gb233)); clear HO0_1; clear HK; clear HB; have HO0_1 := n0_; have HK := n1_; have HB := n2_; have BK233 := n3_; have GW233 := n4_; have GE233 := n5_; clear n0_ n1_ n2_ n3_ n4_ n5_; clear hb hbox hg; have hcz6_0 : w5.cell? ⟨gb233, 0, none⟩ = some (.int .i64 a0_0) := (blk_cell BK233.out 0).trans rfl; have hcz6_1 : w5.cell? ⟨gb233, 1, none⟩ = some (.slice Ao4 l0_1.length co4) := (blk_cell BK233.out 1).trans rfl; have hfz6_0 := blk_frozen BK233.out 0; have hfz6_1 := blk_frozen BK233.out 1) | ((with_reducible refine gate_callee (f := 98) rfl ?_); refine goesL_ (some 8) rfl rfl Try.func98 (by kernel_rfl) rfl #[.slice Ao4 l0_1.length co4, .int .i64 a1] rfl (by (try simp only [List.map_toArray, List.map_cons, List.map_nil]); first | done | rfl | (simp only [List.length_drop, List.length_take]; rfl)) ?_; (with_reducible refine (laws_markForkS.calls k (fun k_ => some k_ = (.slice Ao4 l0_1.length co4 : Value).ownBlock) (.slice Ao4 l0_1.length co4) l0_1 a1 t234 t235 w0 _ ?side1 ?side2 A3.out).mono ?_); (case side1 => repeat (first | (with_reducible first | exact HB.out | apply bwA | apply bwN | apply bwD | refine below_set ?_ GE233.out) | exact HB.out)); (case side2 => exact Kd.R_tight rfl HO0_1.out); rintro e w7 ⟨rfl, hy0, hb, hkp⟩; refine ⟨_, rfl, ?_⟩; have n0_ := Aside0.mk (Kd.R_reok rfl hy0 (fun k_ e_ => HO0_1.out.1 k_ e_)); have n1_ := Aside0.mk (blk_kept (by (with_reducible repeat (first | refine blk_drewN ?_ _ | refine blk_drew ?_ | refine blk_alloc ?_ _)); exact BK233.out) hkp (fun hs_ => (fun e_ => (Kd.R_ne HO0_1.out BK233.out (by decide)) e_) hs_)); have n2_ := Aside0.mk (Kept.then_ (S := (fun k_ => P0_1_ k_)) (by repeat (first | (with_reducible first | exact HK.out | apply Kept.alloc | apply Kept.drewN | apply Kept.drew | refine Kept.setCell ?_ (.inr GW233.out) _) | exact HK.out)) hkp (fun k_ hs_ => (fun e_ => (HO0_1.out.1 k_ e_.symm)) hs_)); have n3_ := Aside0.mk (hb); clear HO0_1; clear BK233; clear HK; clear HB; have HO0_1 := n0_; have BK233 := n1_; have HK := n2_; have HB := n3_; clear n0_ n1_ n2_ n3_; (try clear hb); (try clear hkp); (try clear hy0)))
 go_ret
 exact ⟨by first | rfl | (simp [errW_none, errW_some] <;> rfl) | (simp [*, errW_none, errW_some] <;> rfl), by (with_reducible repeat (first | apply Kd.R_alloc | apply Kd.R_drewN | apply Kd.R_drew)); exact HO0_1.out, by repeat (first | (with_reducible first | exact HB.out | apply bwA | apply bwN | apply bwD | refine below_set ?_ GE233.out) | exact HB.out), by repeat (first | (with_reducible first | exact HK.out | apply Kept.alloc | apply Kept.drewN | apply Kept.drew | refine Kept.setCell ?_ (.inr GW233.out) _) | exact HK.out)⟩

end Go.Proofs.Ytpcckoljocpchaa.QFnExactReordered
