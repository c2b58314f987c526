-- Written by a program of this session (mk.py). Lean checks it.
import Derived.Test.YtpcompnmadpljaaQFnExactDiagramOfx0
import Derived.Test.YtpcompnmadpljaaQFnExactDiagramOfx1
namespace Go.Proofs.Ytpcompnmadpljaa.QFnExactDiagramOf
open Go.RowKit Go.Proofs.YtpcompnmadpljaaW.PrintWords Go.Proofs.YtpcompnmadpljaaW.PrintLast Go.Proofs.YtpcompnmadpljaaW.PrintMore
attribute [local go_sem] max2_int min2_int max_two min_two max_three min_three max_four min_four   -- for this text's walks alone
set_option linter.unusedVariables false
set_option linter.unusedSimpArgs false

/-! ### laws_heldDiagram: function 23 -/
def laws_heldDiagram.f (k : Nat) (a0_0 : Int) (l0_1 : List (S71)) (a1 : Int) : Option (Int) := (laws_heldForkS.f k l0_1 a1).bind fun t119 => (if t119 < 0 then (some (-1)) else (some t119))
theorem laws_heldDiagram.mono : ∀ a0 a1 a2 k, LeO (laws_heldDiagram.f k a0 a1 a2) (laws_heldDiagram.f (k + 1) a0 a1 a2) := by
 intro a0 a1 a2 k
 unfold laws_heldDiagram.f
 repeat' first
   | (with_reducible exact laws_heldForkS.mono _ _ _)
   | (with_reducible exact LeO.refl _)
   | (with_reducible exact LeO.none _)
   | (with_reducible refine LeO.ite ?_ ?_)
   | (with_reducible refine LeO.bind ?_ (fun _ => ?_))
   | exact laws_heldForkS.mono _ _ _
   | exact LeO.none _
   | refine LeO.ite ?_ ?_
   | refine LeO.bind ?_ (fun _ => ?_)
set_option maxHeartbeats 8000000 in
set_option maxRecDepth 100000 in
theorem laws_heldDiagram.calls (k : Nat) (a0_0 : Int) (A0_1 : Option Addr) (c0_1 : Nat) (l0_1 : List (S71)) (a1 : Int) (r : Int) (w : World) (hr0_1 : Kd.C k71 w A0_1 l0_1.length l0_1) (hc0_1 : l0_1.length ≤ c0_1) (h : laws_heldDiagram.f k a0_0 l0_1 a1 = some r) :
  Calls Try.prog 23 #[.agg #[.int .i64 a0_0, .slice A0_1 l0_1.length c0_1], .int .i64 a1] w fun e w' => e = .returned (.int .i64 r) ∧ Below w.heap.size w w' := by
 have hu25 := Try.underlying25
 have HR0_1 := Aside0.mk hr0_1
 have HC0_1 := Aside0.mk hc0_1
 clear hr0_1 hc0_1
 have HB := Aside0.mk (Below.refl w.heap.size w)
 have H : ((laws_heldForkS.f k l0_1 a1).bind fun t119 => (if t119 < 0 then (some (-1)) else (some t119))) = some r := h
 clear h
 replace H := Option.bind_eq_some_iff.mp H
 obtain ⟨t119, A30, H⟩ := H
 replace H : (if t119 < 0 then (some (-1)) else (some t119)) = some r := H
 have A3 := Aside0.mk A30
 clear A30
 by_cases c4 : t119 < 0
 ·rw [if_pos c4] at H
  have c4b0 : decide (t119 < 0) = true := decide_eq_true c4
  clear c4
  obtain rfl := Option.some.inj H
  go_enter Try.func23, Try.ntmps23
  go_wp2_with (first | ((with_reducible refine gate_dst (N := 2) rfl ?_); refine box_event ?hg (N := 2) ?hd (cs := #[.int .i64 a0_0, .slice A0_1 l0_1.length c0_1]) (t := 25) ?hr ?_; (case hd => rfl); (case hg => rfl); (case hr => first | (go_simp; done) | (go_simp; rfl)); intro gb118 hg w5 hbox hb; have n0_ := Aside0.mk (below_step (by repeat (first | (with_reducible first | exact HB.out | apply bwA | apply bwN | apply bwD) | exact HB.out)) hb); have n1_ := Aside0.mk (hbox); have n2_ := Aside0.mk ((by rw [hg]; exact (below_size (by repeat (first | (with_reducible first | exact HB.out | apply bwA | apply bwN | apply bwD) | exact HB.out))) : w.heap.size ≤ gb118)); have n3_ := Aside0.mk ((by rw [hg]; exact (below_size (by repeat (first | (with_reducible first | exact HB.out | apply bwA | apply bwN | apply bwD) | exact HB.out))) : w.heap.size ≤ gb118)); clear HB; have HB := n0_; have BK118 := n1_; have GW118 := n2_; have GE118 := n3_; clear n0_ n1_ n2_ n3_; clear hb hbox hg; have hcz6_0 : w5.cell? ⟨gb118, 0, none⟩ = some (.int .i64 a0_0) := (blk_cell BK118.out 0).trans rfl; have hcz6_1 : w5.cell? ⟨gb118, 1, none⟩ = some (.slice A0_1 l0_1.length c0_1) := (blk_cell BK118.out 1).trans rfl; have hfz6_0 := blk_frozen BK118.out 0; have hfz6_1 := blk_frozen BK118.out 1) | ((with_reducible refine gate_callee (f := 70) rfl ?_); refine goesL_ (some 8) rfl rfl Try.func70 (by kernel_rfl) rfl #[.slice A0_1 l0_1.length c0_1, .int .i64 a1] rfl (by (try simp only [List.map_toArray, List.map_cons, List.map_nil]); first | done | rfl | (simp only [List.length_drop, List.length_take]; rfl)) ?_; (with_reducible refine (laws_heldForkS.calls k _ _ l0_1 a1 t119 _ ?side1 ?side2 A3.out).mono ?_); (case side1 => repeat (first | exact (Kd.C_below HR0_1.out HB.out) | (with_reducible refine Kd.C_alloc ?_ _) | (with_reducible refine Kd.C_drewN ?_ _) | (with_reducible refine Kd.C_drew ?_))); (case side2 => exact HC0_1.out); rintro e w' ⟨rfl, ⟨nd, rfl⟩⟩; refine ⟨_, rfl, ?_⟩))
  go_ret
  exact ⟨by first | rfl | (simp [errW_none, errW_some] <;> rfl) | (simp [*, errW_none, errW_some] <;> rfl), by repeat (first | (with_reducible first | exact HB.out | apply bwA | apply bwN | apply bwD | refine below_set ?_ GE118.out) | exact HB.out)⟩
 ·rw [if_neg c4] at H
  have c4b0 : decide (t119 < 0) = false := decide_eq_false c4
  clear c4
  obtain rfl := Option.some.inj H
  go_enter Try.func23, Try.ntmps23
  go_wp2_with (first | ((with_reducible refine gate_dst (N := 2) rfl ?_); refine box_event ?hg (N := 2) ?hd (cs := #[.int .i64 a0_0, .slice A0_1 l0_1.length c0_1]) (t := 25) ?hr ?_; (case hd => rfl); (case hg => rfl); (case hr => first | (go_simp; done) | (go_simp; rfl)); intro gb118 hg w7 hbox hb; have n0_ := Aside0.mk (below_step (by repeat (first | (with_reducible first | exact HB.out | apply bwA | apply bwN | apply bwD) | exact HB.out)) hb); have n1_ := Aside0.mk (hbox); have n2_ := Aside0.mk ((by rw [hg]; exact (below_size (by repeat (first | (with_reducible first | exact HB.out | apply bwA | apply bwN | apply bwD) | exact HB.out))) : w.heap.size ≤ gb118)); have n3_ := Aside0.mk ((by rw [hg]; exact (below_size (by repeat (first | (with_reducible first | exact HB.out | apply bwA | apply bwN | apply bwD) | exact HB.out))) : w.heap.size ≤ gb118)); clear HB; have HB := n0_; have BK118 := n1_; have GW118 := n2_; have GE118 := n3_; clear n0_ n1_ n2_ n3_; clear hb hbox hg; have hcz8_0 : w7.cell? ⟨gb118, 0, none⟩ = some (.int .i64 a0_0) := (blk_cell BK118.out 0).trans rfl; have hcz8_1 : w7.cell? ⟨gb118, 1, none⟩ = some (.slice A0_1 l0_1.length c0_1) := (blk_cell BK118.out 1).trans rfl; have hfz8_0 := blk_frozen BK118.out 0; have hfz8_1 := blk_frozen BK118.out 1) | ((with_reducible refine gate_callee (f := 70) rfl ?_); refine goesL_ (some 8) rfl rfl Try.func70 (by kernel_rfl) rfl #[.slice A0_1 l0_1.length c0_1, .int .i64 a1] rfl (by (try simp only [List.map_toArray, List.map_cons, List.map_nil]); first | done | rfl | (simp only [List.length_drop, List.length_take]; rfl)) ?_; (with_reducible refine (laws_heldForkS.calls k _ _ l0_1 a1 t119 _ ?side1 ?side2 A3.out).mono ?_); (case side1 => repeat (first | exact (Kd.C_below HR0_1.out HB.out) | (with_reducible refine Kd.C_alloc ?_ _) | (with_reducible refine Kd.C_drewN ?_ _) | (with_reducible refine Kd.C_drew ?_))); (case side2 => exact HC0_1.out); rintro e w' ⟨rfl, ⟨nd, rfl⟩⟩; refine ⟨_, rfl, ?_⟩))
  go_ret
  exact ⟨by first | rfl | (simp [errW_none, errW_some] <;> rfl) | (simp [*, errW_none, errW_some] <;> rfl), by repeat (first | (with_reducible first | exact HB.out | apply bwA | apply bwN | apply bwD | refine below_set ?_ GE118.out) | exact HB.out)⟩

/-! ### impl_Fork_97: function 97 -/
def impl_Fork_97.f (l0 : List (S71)) : Option ((List (S71))) := (some (([] : List (S71)) : List (S71))).bind fun y120 => (if y120.length + l0.length < 5864062014805 then (some (y120 ++ l0)) else (none))
set_option maxHeartbeats 8000000 in
set_option maxRecDepth 100000 in
theorem impl_Fork_97.calls_s (Ad0 : Addr) (c0 : Nat) (l0 : List (S71)) (r : List (S71)) (w : World) (hr0 : Kd.C k71 w (some Ad0) l0.length l0) (hc0 : l0.length ≤ c0) (h : impl_Fork_97.f l0 = some r) :
  Calls Try.prog 97 #[.slice (some Ad0) l0.length c0] w fun e w' => ∃ v0_ : Value, e = .returned (v0_) ∧ Kd.R k71 71 w' w.heap.size (fun _ => True) v0_ r ∧ Below w.heap.size w w' := by
 have HR0 := Aside0.mk hr0
 have HC0 := Aside0.mk hc0
 clear hr0 hc0
 have HB := Aside0.mk (Below.refl w.heap.size w)
 have H : ((some (([] : List (S71)) : List (S71))).bind fun y120 => (if y120.length + l0.length < 5864062014805 then (some (y120 ++ l0)) else (none))) = some r := h
 clear h
 obtain ⟨y120, hy120⟩ : ∃ y_ : List (S71), y_ = (([] : List (S71))) := ⟨_, rfl⟩
 replace H : (if y120.length + l0.length < 5864062014805 then (some (y120 ++ l0)) else (none)) = some r := by first | (rw [hy120]; with_reducible exact H) | (have H2_ := (Option.bind_some _ _).symm.trans H; rw [hy120]; with_reducible exact H2_) | (have H2_ := (Option.bind_some _ _).symm.trans H; with_reducible exact H2_) | with_reducible exact H | (rw [hy120]; exact H) | exact H
 have Ny120 := Aside0.mk hy120
 clear hy120
 by_cases c2 : y120.length + l0.length < 5864062014805
 ·rw [if_pos c2] at H
  have LMc2 := Aside0.mk c2
  clear c2
  obtain ⟨y123, hy123⟩ : ∃ y_ : List (S71), y_ = (y120 ++ l0) := ⟨_, rfl⟩
  replace H : (some y123) = some r := by first | (rw [hy123]; with_reducible exact H) | (have H2_ := (Option.bind_some _ _).symm.trans H; rw [hy123]; with_reducible exact H2_) | (have H2_ := (Option.bind_some _ _).symm.trans H; with_reducible exact H2_) | with_reducible exact H | (rw [hy123]; exact H) | exact H
  have Ny123 := Aside0.mk hy123
  clear hy123
  obtain rfl := Option.some.inj H
  have hun_ := fun (w_ : World) (A_ : Option Addr) (n_ c_ : Nat) => Copy.eql_nil (P := Try.prog) w_ 23 _ A_ n_ c_ Try.underlying23
  go_enter Try.func97, Try.ntmps97
  go_wp2_with (first | ((with_reducible refine gate_dst (N := 5) rfl ?_); refine Kd.R_lit k71 _ 71 ?hg (N := 5) ?hd (xs := ([] : List (S71))) (inner := []) (ok := fun _ => True) (okp := fun _ => True) ?hr ?hp (fun _ hk => hk) trivial (Below.refl _ _) (Nat.le_refl _) (by simp) ?_; (case hd => rfl); (case hg => rfl); (case hr => first | (go_simp; done) | (go_simp; rfl)); (case hp => exact (Reps.none _ _)); intro v121 w3 ho4 hb hg_ hnew_; clear hg_ hnew_; (first | rw [← Ny120.out] at ho4 | (simp only [Int.reduceToNat] at ho4; rw [← Ny120.out] at ho4)); have n0_ := Aside0.mk (Kd.R_lower ho4 (below_size (by repeat (first | (with_reducible first | exact HB.out | apply bwA | apply bwN | apply bwD) | exact HB.out)))); have n1_ := Aside0.mk (below_step (by repeat (first | (with_reducible first | exact HB.out | apply bwA | apply bwN | apply bwD) | exact HB.out)) hb); clear HB; have HO122 := n0_; have HB := n1_; clear n0_ n1_; clear hb ho4) | ((with_reducible refine gate_builtin (b := .append) (xs := #[.tmp 5, .tmp 6]) rfl ?_); at_builtin; refine Kd.R_append_rows k71 (w0 := w) w.heap.size rfl (.tmp 5) (.tmp 6) 23 71 (.agg #[(.int .i64 0), (.int .i64 0), (.int .i64 0)]) 24 rfl Try.underlying23 info71 rfl (by decide) (by omega) v121 y120 l0 _ _ _ (fun _ => True) (fun _ => False) rfl rfl ?aO ?aR (fun _ _ h => h) (fun _ h => h.elim) ?aF ?aB ?aS ?aL ?_; (case aR => repeat (first | exact (Kd.C_below HR0.out HB.out) | (with_reducible refine Kd.C_alloc ?_ _) | (with_reducible refine Kd.C_drewN ?_ _) | (with_reducible refine Kd.C_drew ?_))); (case aB => exact (by repeat (first | (with_reducible first | exact HB.out | apply bwA | apply bwN | apply bwD) | exact HB.out))); (case aF => exact (fun _ _ => trivial)); (case aO => exact (by (with_reducible repeat (first | apply Kd.R_alloc | apply Kd.R_drewN | apply Kd.R_drew)); exact HO122.out)); (case aS => exact (below_size (by repeat (first | (with_reducible first | exact HB.out | apply bwA | apply bwN | apply bwD) | exact HB.out)))); (case aL => have := LMc2.out; omega); intro v124 w5 ho hb hg hat; rw [← Ny123.out] at ho; have n0_ := Aside0.mk (hb); have n1_ := Aside0.mk (ho); clear HB; clear HO122; have HB := n0_; have HO125 := n1_; clear n0_ n1_; clear ho hb hg hat))
  go_ret
  exact ⟨_, by first | rfl | (simp [errW_none, errW_some] <;> rfl) | (simp [*, errW_none, errW_some] <;> rfl), by (with_reducible repeat (first | apply Kd.R_alloc | apply Kd.R_drewN | apply Kd.R_drew)); exact HO125.out, by repeat (first | (with_reducible first | exact HB.out | apply bwA | apply bwN | apply bwD) | exact HB.out)⟩
 ·rw [if_neg c2] at H
  exact absurd H (by simp)
set_option maxHeartbeats 8000000 in
set_option maxRecDepth 100000 in
theorem impl_Fork_97.calls (A0 : Option Addr) (c0 : Nat) (l0 : List (S71)) (r : List (S71)) (w : World) (hr0 : Kd.C k71 w A0 l0.length l0) (hc0 : l0.length ≤ c0) (h : impl_Fork_97.f l0 = some r) :
  Calls Try.prog 97 #[.slice A0 l0.length c0] w fun e w' => ∃ v0_ : Value, e = .returned (v0_) ∧ Kd.R k71 71 w' w.heap.size (fun _ => True) v0_ r ∧ Below w.heap.size w w' := by
 cases A0 with
 | some ad => exact impl_Fork_97.calls_s ad c0 l0 r w hr0 hc0 h
 | none =>
  have hl : l0 = [] := by
   have h_ := hr0
   cases l0 with
   | nil => rfl
   | cons x_ xs_ => obtain ⟨ad, e_, _⟩ := h_.2.2 (by simp); cases e_
  subst hl
  have hr_ : [] = r := Option.some.inj ((show impl_Fork_97.f [] = some [] by unfold impl_Fork_97.f; simp).symm.trans h)
  subst hr_
  clear hc0
  clear h hr0
  have hun_ := fun (w_ : World) (A_ : Option Addr) (n_ c_ : Nat) => Copy.eql_nil (P := Try.prog) w_ 23 _ A_ n_ c_ Try.underlying23
  go_enter Try.func97, Try.ntmps97
  go_wp2
  go_ret
  exact ⟨_, rfl, by first | exact Kd.R_nil _ _ _ _ _ | exact Kd.N_nil _ _ _ _ _, Below.refl _ _⟩

/-! ### impl_forkingOf: function 55 -/
/-! #### A diagram that grows: the state behind a pointer -/
instance : DecidableEq S71 := fun a b => decidable_of_iff (a.f0 = b.f0 ∧ a.f1 = b.f1 ∧ a.f2 = b.f2) (by cases a; cases b; simp)
/-- Numbers that a key may hold. -/
def KeyI (n : Int) : Prop := 0 ≤ n ∧ n ≤ 9223372036854775807
instance (n : Int) : Decidable (KeyI n) := inferInstanceAs (Decidable (_ ∧ _))
theorem KeyI.wf {n : Int} (h : KeyI n) : (Lit.int .i64 n).wf = true := by
 obtain ⟨h0, h1⟩ := h
 simp [Lit.wf, IntKind.min, IntKind.max, IntKind.signed, IntKind.bits]
 omega
def ekF (x : S71) : Value := .agg #[.int .i64 x.f0, .int .i64 x.f1, .int .i64 x.f2]
def okF (x : S71) : Prop := KeyI x.f0 ∧ KeyI x.f1 ∧ KeyI x.f2
instance (x : S71) : Decidable (okF x) := inferInstanceAs (Decidable (_ ∧ _ ∧ _))
theorem lits_int (n : Nat) (y : Int) (h : KeyI y) : Try.prog.keyLits (n + 1) 3 [.int .i64 y] = some [.int .i64 y] := by
 have hu3 := Try.underlying3
 unfold Program.keyLits
 simp only [hu3]
 rw [if_pos ⟨trivial, h.wf⟩]
theorem types_two : ∃ n, Try.prog.types.size + 1 = n + 2 := ⟨Try.prog.types.size - 1, by have : 1 ≤ Try.prog.types.size := of_decide_eq_true (by kernel_rfl); omega⟩
theorem keyF : Mp.Key Try.prog 71 ekF okF where
 law := Maps.Keyed.of_law (deep_law_laid (m := 3) (by kernel_rfl) (by decide) (of_decide_eq_true (by kernel_rfl)) (by kernel_rfl) (by kernel_rfl))
 reads := by
  rintro x ⟨h0, h1, h2⟩
  have hk : Try.prog.keyType 71 = true := by kernel_rfl
  have hc : Try.prog.cellsOf 71 = 3 := by kernel_rfl
  have hc3 : Try.prog.cellsOf 3 = 1 := by kernel_rfl
  have hu := Try.underlying71
  obtain ⟨n, hn⟩ := types_two
  have hform : (Value.agg #[.int .i64 x.f0, .int .i64 x.f1, .int .i64 x.f2]).formed Try.prog 71 = true := by simp [Value.formed, hu, hc]
  have hl : Try.prog.keyLits (n + 2) 71 [.int .i64 x.f0, .int .i64 x.f1, .int .i64 x.f2] = some [.int .i64 x.f0, .int .i64 x.f1, .int .i64 x.f2] := by
   unfold Program.keyLits
   simp only [hu, hc]
   rw [if_pos ⟨rfl, by kernel_rfl⟩]
   simp [hc3, lits_int _ _ h0, lits_int _ _ h1, lits_int _ _ h2]
  refine ⟨.string (keyBytes [.int .i64 x.f0, .int .i64 x.f1, .int .i64 x.f2]), ?_⟩
  unfold keyOf ekF
  simp only [hu]
  rw [if_pos (by rw [hk, hform]; rfl)]
  show (Try.prog.keyLits (Try.prog.types.size + 1) 71 [.int .i64 x.f0, .int .i64 x.f1, .int .i64 x.f2]).map _ = _
  rw [hn, hl]
  rfl
 inj := by
  rintro ⟨a, b, c⟩ ⟨d, e, f⟩ _ _ h
  simp [ekF] at h
  obtain ⟨rfl, rfl, rfl⟩ := h
  rfl
def ek3 (x : Int × Int × Int) : Value := .agg #[.int .i64 x.1, .int .i64 x.2.1, .int .i64 x.2.2]
def ok3 (x : Int × Int × Int) : Prop := KeyI x.1 ∧ KeyI x.2.1 ∧ KeyI x.2.2
instance (x : Int × Int × Int) : Decidable (ok3 x) := inferInstanceAs (Decidable (_ ∧ _ ∧ _))
theorem key3 : Mp.Key Try.prog 128 ek3 ok3 where
 law := Maps.Keyed.of_law (deep_law_laid (m := 3) (by kernel_rfl) (by decide) (of_decide_eq_true (by kernel_rfl)) (by kernel_rfl) (by kernel_rfl))
 reads := by
  rintro x ⟨h0, h1, h2⟩
  have hk : Try.prog.keyType 128 = true := by kernel_rfl
  have hc : Try.prog.cellsOf 128 = 3 := by kernel_rfl
  have hc3 : Try.prog.cellsOf 3 = 1 := by kernel_rfl
  have hu := Try.underlying128
  obtain ⟨n, hn⟩ := types_two
  have hform : (Value.agg #[.int .i64 x.1, .int .i64 x.2.1, .int .i64 x.2.2]).formed Try.prog 128 = true := by simp [Value.formed, hu, hc]
  have hl : Try.prog.keyLits (n + 2) 128 [.int .i64 x.1, .int .i64 x.2.1, .int .i64 x.2.2] = some [.int .i64 x.1, .int .i64 x.2.1, .int .i64 x.2.2] := by
   unfold Program.keyLits
   simp only [hu, hc]
   simp [hc3, show List.range 3 = [0, 1, 2] by rfl, lits_int _ _ h0, lits_int _ _ h1, lits_int _ _ h2]
  refine ⟨.string (keyBytes [.int .i64 x.1, .int .i64 x.2.1, .int .i64 x.2.2]), ?_⟩
  unfold keyOf ek3
  simp only [hu]
  rw [if_pos (by rw [hk, hform]; rfl)]
  show (Try.prog.keyLits (Try.prog.types.size + 1) 128 [.int .i64 x.1, .int .i64 x.2.1, .int .i64 x.2.2]).map _ = _
  rw [hn, hl]
  rfl
 inj := by
  rintro ⟨a, b, c⟩ ⟨d, e, f⟩ _ _ h
  simp [ek3] at h
  obtain ⟨rfl, rfl, rfl⟩ := h
  rfl
/-- What a diagram that grows holds: its variables, its forks, where each fork stands, whether it is too great, what has been done. -/
structure FS where
 vars : Int
 forks : List S71
 seen : S71 → Option Int
 full : Bool
 memo : Int × Int × Int → Option Int
def IsF (w : World) (base : Nat) (ok : Nat → Prop) (g : Nat) (s : FS) : Prop :=
 ∃ (v : Value) (b1 b2 : Nat), w.heap[g]? = some (.cells #[.int .i64 s.vars, v, .map (some b1), .bool s.full, .map (some b2)] 113 (0, 0)) ∧ Kd.R k71 71 w base ok v s.forks ∧
  Mp.Is ekF okF (Value.int .i64) w b1 s.seen ∧ Mp.Is ek3 ok3 (Value.int .i64) w b2 s.memo ∧ b1 ≠ b2 ∧ ok g ∧ ok b1 ∧ ok b2 ∧ base ≤ g ∧ base ≤ b1 ∧ base ≤ b2
theorem IsF.step {w w1 : World} {base : Nat} {ok : Nat → Prop} {g : Nat} {s : FS} (h : IsF w base ok g s) (hm : ∀ k, ok k → k < w.heap.size → w1.heap[k]? = w.heap[k]?) : IsF w1 base ok g s := by
 obtain ⟨v, b1, b2, h1, h2, h3, h4, h5, h6, h7, h8, h9⟩ := h
 exact ⟨v, b1, b2, (hm g h6 (blk_lt h1)).trans h1, Kd.R_step h2 hm, h3.move (hm b1 h7 h3.lt), h4.move (hm b2 h8 h4.lt), h5, h6, h7, h8, h9⟩
theorem IsF.below {w w1 : World} {base : Nat} {ok : Nat → Prop} {g : Nat} {s : FS} (h : IsF w base ok g s) (hb : Below w.heap.size w w1) : IsF w1 base ok g s := h.step (fun k _ hk => hb.block k hk)
theorem IsF.drewN {w : World} {base : Nat} {ok : Nat → Prop} {g : Nat} {s : FS} (h : IsF w base ok g s) (n : Nat) : IsF (w.drewN n) base ok g s := h.step (fun _ _ _ => rfl)
theorem IsF.mono {w : World} {base : Nat} {ok ok' : Nat → Prop} {g : Nat} {s : FS} (h : IsF w base ok g s) (hk : ∀ k, ok k → ok' k) : IsF w base ok' g s := by
 obtain ⟨v, b1, b2, h1, h2, h3, h4, h5, h6, h7, h8, h9⟩ := h
 exact ⟨v, b1, b2, h1, Kd.R_mono h2 hk, h3, h4, h5, hk _ h6, hk _ h7, hk _ h8, h9⟩
theorem IsF.bound {w : World} {base : Nat} {ok : Nat → Prop} {g : Nat} {s : FS} (h : IsF w base ok g s) : IsF w base (fun k => ok k ∧ base ≤ k ∧ k < w.heap.size) g s := by
 obtain ⟨v, b1, b2, h1, h2, h3, h4, h5, h6, h7, h8, h9, h10, h11⟩ := h
 exact ⟨v, b1, b2, h1, Kd.R_mono (Kd.R_bound h2) (fun k hk => ⟨hk.1, hk.2.1, hk.2.2.1⟩), h3, h4, h5, ⟨h6, h9, blk_lt h1⟩, ⟨h7, h10, h3.lt⟩, ⟨h8, h11, h4.lt⟩, h9, h10, h11⟩
theorem zero_int : ∀ w : World, (zeroValue 3).run Try.prog w = .ok (.int .i64 0) w := fun w => by
 have h := info3
 unfold zeroValue typeInfo
 obtain ⟨i, hi, hz⟩ := Option.map_eq_some_iff.1 h
 simp only [Prod.mk.injEq] at hz
 simp [hi, hz.1]
theorem Kd.R_map {α K V : Type} {d : Kd α} {e base b : Nat} {ok : Nat → Prop} {w w1 : World} {v : Value} {xs : List α} (h : d.R e w base ok v xs) {ek : K → Value} {okk : K → Prop} {ev : V → Value} {f : K → Option V} (hM : Mp.Is ek okk ev w b f) (hg : w.grownBy w1 (some b)) : d.R e w1 base ok v xs :=
 Kd.R_mono (Kd.R_grown (Kd.R_bound h) hg (fun k hk e_ => by
  obtain ⟨_, _, _, q, _, cells, hc⟩ := hk
  cases e_
  obtain ⟨_, _, q, _⟩ := hM
  rw [hc] at q
  cases q)) (fun _ hk => hk.1)
def impl_forkingOf.seen (l : List S71) : Nat → S71 → Option Int
 | 0 => fun _ => none
 | i + 1 => fun y => if y = rd_T71 l (i : Int) then some ((i : Int) + 2) else impl_forkingOf.seen l i y
def impl_forkingOf.f (a0 : Int) (l : List S71) : Option FS := (impl_Fork_97.f l).bind fun l2 => if ∀ x ∈ l, okF x then some ⟨a0, l2, impl_forkingOf.seen l l.length, false, fun _ => none⟩ else none
set_option maxHeartbeats 4000000 in
set_option maxRecDepth 100000 in
theorem impl_forkingOf.calls (a0 : Int) (A : Option Addr) (c : Nat) (l : List S71) (s : FS) (w : World) (hr : Kd.C k71 w A l.length l) (hc : l.length ≤ c) (h : impl_forkingOf.f a0 l = some s) :
  Calls Try.prog 55 #[.agg #[.int .i64 a0, .slice A l.length c]] w fun e w' => ∃ g, e = .returned (.pointer (some ⟨g, 0, none⟩)) ∧ IsF w' w.heap.size (fun k => w.heap.size ≤ k) g s ∧ Below w.heap.size w w' := by
 have hu25 := Try.underlying25
 have hu71 := Try.underlying71
 have hu113 := Try.underlying113
 unfold impl_forkingOf.f at h
 obtain ⟨l2, h1, h2⟩ := Option.bind_eq_some_iff.mp h
 clear h
 by_cases c1 : ∀ x ∈ l, okF x
 ·rw [if_pos c1] at h2
  obtain rfl := Option.some.inj h2
  have HR := Aside0.mk hr
  have HC := Aside0.mk hc
  have H1 := Aside0.mk h1
  have C1 := Aside0.mk c1
  have HL := Aside0.mk (show l.length < 9000000000000 by
   unfold impl_Fork_97.f at h1
   simp only [Option.bind_some, List.length_nil, Nat.zero_add] at h1
   split at h1
   ·omega
   ·cases h1)
  clear hr hc h1 h2 c1
  go_enter Try.func55, Try.ntmps55
  go_wp2_with ((with_reducible refine gate_dst (N := 1) rfl ?_); refine box_event ?hg (N := 1) ?hd (cs := #[.int .i64 a0, .slice A l.length c]) (t := 25) ?hr ?_; (case hd => rfl); (case hg => rfl); (case hr => first | (go_simp; done) | (go_simp; rfl)); intro g0 hg0 w3 hbox hb; have BX0 := Aside0.mk hbox; have HB3 := Aside0.mk hb; clear hg0 hbox hb)
  refine start_ (n := 11) (S := fun w' => w'.cell? ⟨g0, 0, none⟩ = some (.int .i64 a0) ∧ w'.cell? ⟨g0, 1, none⟩ = some (.slice A l.length c)) (ds := []) (Pt.bm 11 0) (by kernel_rfl) rfl rfl ⟨(blk_cell BX0.out 0).trans rfl, (blk_cell BX0.out 1).trans rfl⟩ (fun hHeld => ?_)
  have HB4 := Aside0.mk (below_step HB3.out (below_drew (Below.refl _ _)))
  have BX4 := Aside0.mk (blk_drew BX0.out)
  generalize w3.drew = w4 at HB4 BX4 hHeld ⊢
  clear HB3 BX0
  refine Pt.pu 0 (some 6) (Pt.bm 11 1) (by kernel_rfl) ?_
  refine Pt.tk 1 (some 7) (Pt.bm 11 3) rfl rfl (by kernel_rfl) hHeld (Or.inl ⟨by rfl, by rintro w' ⟨s0, s1⟩; go_simp; with_reducible rfl⟩) ?_
  refine Pt.pu 2 (some 8) (Pt.bm 11 7) (by kernel_rfl) ?_
  refine Pt.tk 3 (some 9) (Pt.bm 11 15) rfl rfl (by kernel_rfl) hHeld (Or.inl ⟨by rfl, by rintro w' ⟨s0, s1⟩; go_simp; with_reducible rfl⟩) ?_
  refine join_ (σ := Value × Nat × Nat) 3 (Pt.bm 11 255) (fun s_ => [(10, s_.1), (11, .agg #[.int .i64 a0, s_.1]), (12, .map (some s_.2.1)), (13, .map (some s_.2.2))]) (fun s_ w' => Kd.R k71 71 w' w.heap.size (fun k => w.heap.size ≤ k) s_.1 l2 ∧ Mp.Is ekF okF (Value.int .i64) w' s_.2.1 (fun _ => none) ∧ Mp.Is ek3 ok3 (Value.int .i64) w' s_.2.2 (fun _ => none) ∧ s_.2.1 ≠ s_.2.2 ∧ w.heap.size ≤ s_.2.1 ∧ w.heap.size ≤ s_.2.2 ∧ Below w.heap.size w w' ∧ w'.heap[g0]? = some (.cells #[.int .i64 a0, .slice A l.length c] 25 (0, 0))) ?_ ?_
  rotate_left
  ·intro hCont
   refine three_ (i := 4) (j := 6) (k := 7) (Ni := some 10) (Nj := some 12) (Nk := some 13) (Pt.bm 11 31) (Pt.bm 11 79) (Pt.bm 11 143) rfl rfl rfl rfl rfl rfl (by kernel_rfl) (by decide) (by decide) (by decide) (fun K hK => ?_) (fun K hK => ?_) (fun K hK => ?_)
   ·skip
    refine goes_ Try.func97 (by kernel_rfl) rfl #[.slice A l.length c] (by rfl) rfl rfl (by (try simp only [List.map_toArray, List.map_cons, List.map_nil]); first | done | rfl) ?_
    refine (impl_Fork_97.calls A c l l2 _ (Kd.C_below HR.out HB4.out) HC.out H1.out).mono ?_
    rintro e w4 ⟨v4, rfl, hRv, hb⟩
    refine ⟨_, rfl, ?_⟩
    have R4 := Aside0.mk (Kd.R_mono (Kd.R_bound (Kd.R_lower hRv HB4.out.size)) (fun k hk => hk.2.1))
    obtain ⟨A4, c4, e4⟩ := Kd.R_slice hRv
    subst e4
    have HB4 := Aside0.mk (below_step HB4.out hb)
    have BX4 := Aside0.mk (blk_below BX4.out hb)
    refine hK.out _ _ ⟨(blk_cell BX4.out 0).trans rfl, (blk_cell BX4.out 1).trans rfl⟩ (fun hHeld => ?_)
    clear hK K hb
    refine norm_ (a' := ?_) ?_ ?_
    rotate_left
    ·show Act.put _ (some 10) _ = _
     simp only [Act.put, List.setIfInBounds_toArray, List.set_cons_zero, List.set_cons_succ, i64_w, i32_w]
     rfl
    refine Pt.pu 5 (some 11) (Pt.bm 11 63) (by kernel_rfl) ?_
    refine two_ (i := 6) (j := 7) (Ni := some 12) (Nj := some 13) (Pt.bm 11 127) (Pt.bm 11 191) rfl rfl rfl rfl (by kernel_rfl) (by decide) (by decide) (fun K hK => ?_) (fun K hK => ?_)
    ·skip
     refine value_ (w1 := w4.alloc (.map #[] 0)) (v := .map (some w4.heap.size)) (by rfl) rfl rfl ?_
     have hb := below_alloc (Below.refl w4.heap.size w4) (.map #[] 0)
     have M64 := Aside0.mk (Mp.Is.made ekF okF (Value.int .i64) w4)
     have G64 := Aside0.mk HB4.out.size
     have HB64 := Aside0.mk (below_step HB4.out hb)
     have BX64 := Aside0.mk (blk_below BX4.out hb)
     have R64 := Aside0.mk (Kd.R_below R4.out hb)
     refine hK.out _ _ ⟨(blk_cell BX64.out 0).trans rfl, (blk_cell BX64.out 1).trans rfl⟩ (fun hHeld => ?_)
     clear hK K hb
     refine norm_ (a' := ?_) ?_ ?_
     rotate_left
     ·show Act.put _ (some 12) _ = _
      simp only [Act.put, List.setIfInBounds_toArray, List.set_cons_zero, List.set_cons_succ, i64_w, i32_w]
      rfl
     refine one_ (i := 7) (N := some 13) (Pt.bm 11 255) rfl rfl (by kernel_rfl) (by decide) (fun K hK => ?_)
     have NE := Aside0.mk (Nat.ne_of_lt M64.out.lt)
     refine value_ (w1 := (w4.alloc (.map #[] 0)).alloc (.map #[] 0)) (v := .map (some (w4.alloc (.map #[] 0)).heap.size)) (by rfl) rfl rfl ?_
     have hb := below_alloc (Below.refl (w4.alloc (.map #[] 0)).heap.size (w4.alloc (.map #[] 0))) (.map #[] 0)
     have M746 := Aside0.mk (Mp.Is.made ek3 ok3 (Value.int .i64) (w4.alloc (.map #[] 0)))
     have G746 := Aside0.mk HB64.out.size
     have HB746 := Aside0.mk (below_step HB64.out hb)
     have BX746 := Aside0.mk (blk_below BX64.out hb)
     have X746 := Aside0.mk (M64.out.below hb)
     have R746 := Aside0.mk (Kd.R_below R64.out hb)
     refine hK.out _ _ ⟨(blk_cell BX746.out 0).trans rfl, (blk_cell BX746.out 1).trans rfl⟩ (fun hHeld => ?_)
     clear hK K hb
     refine norm_ (a' := ?_) ?_ ?_
     rotate_left
     ·show Act.put _ (some 13) _ = _
      simp only [Act.put, List.setIfInBounds_toArray, List.set_cons_zero, List.set_cons_succ, i64_w, i32_w]
      rfl
     exact norm_ (by simp only [putAll, Act.put, List.setIfInBounds_toArray, List.set_cons_zero, List.set_cons_succ]) (hCont ((.slice A4 l2.length c4), w4.heap.size, (w4.alloc (.map #[] 0)).heap.size) _ ⟨R746.out, X746.out, M746.out, NE.out, G64.out, G746.out, HB746.out, BX746.out⟩)
    ·skip
     refine value_ (w1 := w4.alloc (.map #[] 0)) (v := .map (some w4.heap.size)) (by rfl) rfl rfl ?_
     have hb := below_alloc (Below.refl w4.heap.size w4) (.map #[] 0)
     have M74 := Aside0.mk (Mp.Is.made ek3 ok3 (Value.int .i64) w4)
     have G74 := Aside0.mk HB4.out.size
     have HB74 := Aside0.mk (below_step HB4.out hb)
     have BX74 := Aside0.mk (blk_below BX4.out hb)
     have R74 := Aside0.mk (Kd.R_below R4.out hb)
     refine hK.out _ _ ⟨(blk_cell BX74.out 0).trans rfl, (blk_cell BX74.out 1).trans rfl⟩ (fun hHeld => ?_)
     clear hK K hb
     refine norm_ (a' := ?_) ?_ ?_
     rotate_left
     ·show Act.put _ (some 13) _ = _
      simp only [Act.put, List.setIfInBounds_toArray, List.set_cons_zero, List.set_cons_succ, i64_w, i32_w]
      rfl
     refine one_ (i := 6) (N := some 12) (Pt.bm 11 255) rfl rfl (by kernel_rfl) (by decide) (fun K hK => ?_)
     have NE := Aside0.mk (Nat.ne_of_gt M74.out.lt)
     refine value_ (w1 := (w4.alloc (.map #[] 0)).alloc (.map #[] 0)) (v := .map (some (w4.alloc (.map #[] 0)).heap.size)) (by rfl) rfl rfl ?_
     have hb := below_alloc (Below.refl (w4.alloc (.map #[] 0)).heap.size (w4.alloc (.map #[] 0))) (.map #[] 0)
     have M647 := Aside0.mk (Mp.Is.made ekF okF (Value.int .i64) (w4.alloc (.map #[] 0)))
     have G647 := Aside0.mk HB74.out.size
     have HB647 := Aside0.mk (below_step HB74.out hb)
     have BX647 := Aside0.mk (blk_below BX74.out hb)
     have Y647 := Aside0.mk (M74.out.below hb)
     have R647 := Aside0.mk (Kd.R_below R74.out hb)
     refine hK.out _ _ ⟨(blk_cell BX647.out 0).trans rfl, (blk_cell BX647.out 1).trans rfl⟩ (fun hHeld => ?_)
     clear hK K hb
     refine norm_ (a' := ?_) ?_ ?_
     rotate_left
     ·show Act.put _ (some 12) _ = _
      simp only [Act.put, List.setIfInBounds_toArray, List.set_cons_zero, List.set_cons_succ, i64_w, i32_w]
      rfl
     exact norm_ (by simp only [putAll, Act.put, List.setIfInBounds_toArray, List.set_cons_zero, List.set_cons_succ]) (hCont ((.slice A4 l2.length c4), (w4.alloc (.map #[] 0)).heap.size, w4.heap.size) _ ⟨R647.out, M647.out, Y647.out, NE.out, G647.out, G74.out, HB647.out, BX647.out⟩)
   ·skip
    refine value_ (w1 := w4.alloc (.map #[] 0)) (v := .map (some w4.heap.size)) (by rfl) rfl rfl ?_
    have hb := below_alloc (Below.refl w4.heap.size w4) (.map #[] 0)
    have M6 := Aside0.mk (Mp.Is.made ekF okF (Value.int .i64) w4)
    have G6 := Aside0.mk HB4.out.size
    have HB6 := Aside0.mk (below_step HB4.out hb)
    have BX6 := Aside0.mk (blk_below BX4.out hb)
    refine hK.out _ _ ⟨(blk_cell BX6.out 0).trans rfl, (blk_cell BX6.out 1).trans rfl⟩ (fun hHeld => ?_)
    clear hK K hb
    refine norm_ (a' := ?_) ?_ ?_
    rotate_left
    ·show Act.put _ (some 12) _ = _
     simp only [Act.put, List.setIfInBounds_toArray, List.set_cons_zero, List.set_cons_succ, i64_w, i32_w]
     rfl
    refine two_ (i := 4) (j := 7) (Ni := some 10) (Nj := some 13) (Pt.bm 11 95) (Pt.bm 11 207) rfl rfl rfl rfl (by kernel_rfl) (by decide) (by decide) (fun K hK => ?_) (fun K hK => ?_)
    ·skip
     refine goes_ Try.func97 (by kernel_rfl) rfl #[.slice A l.length c] (by rfl) rfl rfl (by (try simp only [List.map_toArray, List.map_cons, List.map_nil]); first | done | rfl) ?_
     refine (impl_Fork_97.calls A c l l2 _ (Kd.C_below HR.out HB6.out) HC.out H1.out).mono ?_
     rintro e w46 ⟨v46, rfl, hRv, hb⟩
     refine ⟨_, rfl, ?_⟩
     have R46 := Aside0.mk (Kd.R_mono (Kd.R_bound (Kd.R_lower hRv HB6.out.size)) (fun k hk => hk.2.1))
     obtain ⟨A46, c46, e46⟩ := Kd.R_slice hRv
     subst e46
     have HB46 := Aside0.mk (below_step HB6.out hb)
     have BX46 := Aside0.mk (blk_below BX6.out hb)
     have X46 := Aside0.mk (M6.out.below hb)
     refine hK.out _ _ ⟨(blk_cell BX46.out 0).trans rfl, (blk_cell BX46.out 1).trans rfl⟩ (fun hHeld => ?_)
     clear hK K hb
     refine norm_ (a' := ?_) ?_ ?_
     rotate_left
     ·show Act.put _ (some 10) _ = _
      simp only [Act.put, List.setIfInBounds_toArray, List.set_cons_zero, List.set_cons_succ, i64_w, i32_w]
      rfl
     refine Pt.pu 5 (some 11) (Pt.bm 11 127) (by kernel_rfl) ?_
     refine one_ (i := 7) (N := some 13) (Pt.bm 11 255) rfl rfl (by kernel_rfl) (by decide) (fun K hK => ?_)
     have NE := Aside0.mk (Nat.ne_of_lt X46.out.lt)
     refine value_ (w1 := w46.alloc (.map #[] 0)) (v := .map (some w46.heap.size)) (by rfl) rfl rfl ?_
     have hb := below_alloc (Below.refl w46.heap.size w46) (.map #[] 0)
     have M764 := Aside0.mk (Mp.Is.made ek3 ok3 (Value.int .i64) w46)
     have G764 := Aside0.mk HB46.out.size
     have HB764 := Aside0.mk (below_step HB46.out hb)
     have BX764 := Aside0.mk (blk_below BX46.out hb)
     have R764 := Aside0.mk (Kd.R_below R46.out hb)
     have X764 := Aside0.mk (X46.out.below hb)
     refine hK.out _ _ ⟨(blk_cell BX764.out 0).trans rfl, (blk_cell BX764.out 1).trans rfl⟩ (fun hHeld => ?_)
     clear hK K hb
     refine norm_ (a' := ?_) ?_ ?_
     rotate_left
     ·show Act.put _ (some 13) _ = _
      simp only [Act.put, List.setIfInBounds_toArray, List.set_cons_zero, List.set_cons_succ, i64_w, i32_w]
      rfl
     exact norm_ (by simp only [putAll, Act.put, List.setIfInBounds_toArray, List.set_cons_zero, List.set_cons_succ]) (hCont ((.slice A46 l2.length c46), w4.heap.size, w46.heap.size) _ ⟨R764.out, X764.out, M764.out, NE.out, G6.out, G764.out, HB764.out, BX764.out⟩)
    ·skip
     have NE := Aside0.mk (Nat.ne_of_lt M6.out.lt)
     refine value_ (w1 := (w4.alloc (.map #[] 0)).alloc (.map #[] 0)) (v := .map (some (w4.alloc (.map #[] 0)).heap.size)) (by rfl) rfl rfl ?_
     have hb := below_alloc (Below.refl (w4.alloc (.map #[] 0)).heap.size (w4.alloc (.map #[] 0))) (.map #[] 0)
     have M76 := Aside0.mk (Mp.Is.made ek3 ok3 (Value.int .i64) (w4.alloc (.map #[] 0)))
     have G76 := Aside0.mk HB6.out.size
     have HB76 := Aside0.mk (below_step HB6.out hb)
     have BX76 := Aside0.mk (blk_below BX6.out hb)
     have X76 := Aside0.mk (M6.out.below hb)
     refine hK.out _ _ ⟨(blk_cell BX76.out 0).trans rfl, (blk_cell BX76.out 1).trans rfl⟩ (fun hHeld => ?_)
     clear hK K hb
     refine norm_ (a' := ?_) ?_ ?_
     rotate_left
     ·show Act.put _ (some 13) _ = _
      simp only [Act.put, List.setIfInBounds_toArray, List.set_cons_zero, List.set_cons_succ, i64_w, i32_w]
      rfl
     refine one_ (i := 4) (N := some 10) (Pt.bm 11 223) rfl rfl (by kernel_rfl) (by decide) (fun K hK => ?_)
     refine goes_ Try.func97 (by kernel_rfl) rfl #[.slice A l.length c] (by rfl) rfl rfl (by (try simp only [List.map_toArray, List.map_cons, List.map_nil]); first | done | rfl) ?_
     refine (impl_Fork_97.calls A c l l2 _ (Kd.C_below HR.out HB76.out) HC.out H1.out).mono ?_
     rintro e w467 ⟨v467, rfl, hRv, hb⟩
     refine ⟨_, rfl, ?_⟩
     have R467 := Aside0.mk (Kd.R_mono (Kd.R_bound (Kd.R_lower hRv HB76.out.size)) (fun k hk => hk.2.1))
     obtain ⟨A467, c467, e467⟩ := Kd.R_slice hRv
     subst e467
     have HB467 := Aside0.mk (below_step HB76.out hb)
     have BX467 := Aside0.mk (blk_below BX76.out hb)
     have Y467 := Aside0.mk (M76.out.below hb)
     have X467 := Aside0.mk (X76.out.below hb)
     refine hK.out _ _ ⟨(blk_cell BX467.out 0).trans rfl, (blk_cell BX467.out 1).trans rfl⟩ (fun hHeld => ?_)
     clear hK K hb
     refine norm_ (a' := ?_) ?_ ?_
     rotate_left
     ·show Act.put _ (some 10) _ = _
      simp only [Act.put, List.setIfInBounds_toArray, List.set_cons_zero, List.set_cons_succ, i64_w, i32_w]
      rfl
     refine Pt.pu 5 (some 11) (Pt.bm 11 255) (by kernel_rfl) ?_
     exact norm_ (by simp only [putAll, Act.put, List.setIfInBounds_toArray, List.set_cons_zero, List.set_cons_succ]) (hCont ((.slice A467 l2.length c467), w4.heap.size, (w4.alloc (.map #[] 0)).heap.size) _ ⟨R467.out, X467.out, Y467.out, NE.out, G6.out, G76.out, HB467.out, BX467.out⟩)
   ·skip
    refine value_ (w1 := w4.alloc (.map #[] 0)) (v := .map (some w4.heap.size)) (by rfl) rfl rfl ?_
    have hb := below_alloc (Below.refl w4.heap.size w4) (.map #[] 0)
    have M7 := Aside0.mk (Mp.Is.made ek3 ok3 (Value.int .i64) w4)
    have G7 := Aside0.mk HB4.out.size
    have HB7 := Aside0.mk (below_step HB4.out hb)
    have BX7 := Aside0.mk (blk_below BX4.out hb)
    refine hK.out _ _ ⟨(blk_cell BX7.out 0).trans rfl, (blk_cell BX7.out 1).trans rfl⟩ (fun hHeld => ?_)
    clear hK K hb
    refine norm_ (a' := ?_) ?_ ?_
    rotate_left
    ·show Act.put _ (some 13) _ = _
     simp only [Act.put, List.setIfInBounds_toArray, List.set_cons_zero, List.set_cons_succ, i64_w, i32_w]
     rfl
    refine two_ (i := 4) (j := 6) (Ni := some 10) (Nj := some 12) (Pt.bm 11 159) (Pt.bm 11 207) rfl rfl rfl rfl (by kernel_rfl) (by decide) (by decide) (fun K hK => ?_) (fun K hK => ?_)
    ·skip
     refine goes_ Try.func97 (by kernel_rfl) rfl #[.slice A l.length c] (by rfl) rfl rfl (by (try simp only [List.map_toArray, List.map_cons, List.map_nil]); first | done | rfl) ?_
     refine (impl_Fork_97.calls A c l l2 _ (Kd.C_below HR.out HB7.out) HC.out H1.out).mono ?_
     rintro e w47 ⟨v47, rfl, hRv, hb⟩
     refine ⟨_, rfl, ?_⟩
     have R47 := Aside0.mk (Kd.R_mono (Kd.R_bound (Kd.R_lower hRv HB7.out.size)) (fun k hk => hk.2.1))
     obtain ⟨A47, c47, e47⟩ := Kd.R_slice hRv
     subst e47
     have HB47 := Aside0.mk (below_step HB7.out hb)
     have BX47 := Aside0.mk (blk_below BX7.out hb)
     have Y47 := Aside0.mk (M7.out.below hb)
     refine hK.out _ _ ⟨(blk_cell BX47.out 0).trans rfl, (blk_cell BX47.out 1).trans rfl⟩ (fun hHeld => ?_)
     clear hK K hb
     refine norm_ (a' := ?_) ?_ ?_
     rotate_left
     ·show Act.put _ (some 10) _ = _
      simp only [Act.put, List.setIfInBounds_toArray, List.set_cons_zero, List.set_cons_succ, i64_w, i32_w]
      rfl
     refine Pt.pu 5 (some 11) (Pt.bm 11 191) (by kernel_rfl) ?_
     refine one_ (i := 6) (N := some 12) (Pt.bm 11 255) rfl rfl (by kernel_rfl) (by decide) (fun K hK => ?_)
     have NE := Aside0.mk (Nat.ne_of_gt Y47.out.lt)
     refine value_ (w1 := w47.alloc (.map #[] 0)) (v := .map (some w47.heap.size)) (by rfl) rfl rfl ?_
     have hb := below_alloc (Below.refl w47.heap.size w47) (.map #[] 0)
     have M674 := Aside0.mk (Mp.Is.made ekF okF (Value.int .i64) w47)
     have G674 := Aside0.mk HB47.out.size
     have HB674 := Aside0.mk (below_step HB47.out hb)
     have BX674 := Aside0.mk (blk_below BX47.out hb)
     have R674 := Aside0.mk (Kd.R_below R47.out hb)
     have Y674 := Aside0.mk (Y47.out.below hb)
     refine hK.out _ _ ⟨(blk_cell BX674.out 0).trans rfl, (blk_cell BX674.out 1).trans rfl⟩ (fun hHeld => ?_)
     clear hK K hb
     refine norm_ (a' := ?_) ?_ ?_
     rotate_left
     ·show Act.put _ (some 12) _ = _
      simp only [Act.put, List.setIfInBounds_toArray, List.set_cons_zero, List.set_cons_succ, i64_w, i32_w]
      rfl
     exact norm_ (by simp only [putAll, Act.put, List.setIfInBounds_toArray, List.set_cons_zero, List.set_cons_succ]) (hCont ((.slice A47 l2.length c47), w47.heap.size, w4.heap.size) _ ⟨R674.out, M674.out, Y674.out, NE.out, G674.out, G7.out, HB674.out, BX674.out⟩)
    ·skip
     have NE := Aside0.mk (Nat.ne_of_gt M7.out.lt)
     refine value_ (w1 := (w4.alloc (.map #[] 0)).alloc (.map #[] 0)) (v := .map (some (w4.alloc (.map #[] 0)).heap.size)) (by rfl) rfl rfl ?_
     have hb := below_alloc (Below.refl (w4.alloc (.map #[] 0)).heap.size (w4.alloc (.map #[] 0))) (.map #[] 0)
     have M67 := Aside0.mk (Mp.Is.made ekF okF (Value.int .i64) (w4.alloc (.map #[] 0)))
     have G67 := Aside0.mk HB7.out.size
     have HB67 := Aside0.mk (below_step HB7.out hb)
     have BX67 := Aside0.mk (blk_below BX7.out hb)
     have Y67 := Aside0.mk (M7.out.below hb)
     refine hK.out _ _ ⟨(blk_cell BX67.out 0).trans rfl, (blk_cell BX67.out 1).trans rfl⟩ (fun hHeld => ?_)
     clear hK K hb
     refine norm_ (a' := ?_) ?_ ?_
     rotate_left
     ·show Act.put _ (some 12) _ = _
      simp only [Act.put, List.setIfInBounds_toArray, List.set_cons_zero, List.set_cons_succ, i64_w, i32_w]
      rfl
     refine one_ (i := 4) (N := some 10) (Pt.bm 11 223) rfl rfl (by kernel_rfl) (by decide) (fun K hK => ?_)
     refine goes_ Try.func97 (by kernel_rfl) rfl #[.slice A l.length c] (by rfl) rfl rfl (by (try simp only [List.map_toArray, List.map_cons, List.map_nil]); first | done | rfl) ?_
     refine (impl_Fork_97.calls A c l l2 _ (Kd.C_below HR.out HB67.out) HC.out H1.out).mono ?_
     rintro e w476 ⟨v476, rfl, hRv, hb⟩
     refine ⟨_, rfl, ?_⟩
     have R476 := Aside0.mk (Kd.R_mono (Kd.R_bound (Kd.R_lower hRv HB67.out.size)) (fun k hk => hk.2.1))
     obtain ⟨A476, c476, e476⟩ := Kd.R_slice hRv
     subst e476
     have HB476 := Aside0.mk (below_step HB67.out hb)
     have BX476 := Aside0.mk (blk_below BX67.out hb)
     have X476 := Aside0.mk (M67.out.below hb)
     have Y476 := Aside0.mk (Y67.out.below hb)
     refine hK.out _ _ ⟨(blk_cell BX476.out 0).trans rfl, (blk_cell BX476.out 1).trans rfl⟩ (fun hHeld => ?_)
     clear hK K hb
     refine norm_ (a' := ?_) ?_ ?_
     rotate_left
     ·show Act.put _ (some 10) _ = _
      simp only [Act.put, List.setIfInBounds_toArray, List.set_cons_zero, List.set_cons_succ, i64_w, i32_w]
      rfl
     refine Pt.pu 5 (some 11) (Pt.bm 11 255) (by kernel_rfl) ?_
     exact norm_ (by simp only [putAll, Act.put, List.setIfInBounds_toArray, List.set_cons_zero, List.set_cons_succ]) (hCont ((.slice A476 l2.length c476), (w4.alloc (.map #[] 0)).heap.size, w4.heap.size) _ ⟨R476.out, X476.out, Y476.out, NE.out, G67.out, G7.out, HB476.out, BX476.out⟩)
  rintro ⟨v0, b1, b2⟩ w5 ⟨hRv, hm1, hm2, hne, hb1, hb2, hb, hbx⟩
  obtain ⟨A5, c5, rfl⟩ := Kd.R_slice hRv
  refine norm_ (a' := ?_) ?_ ?_
  rotate_left
  ·simp only [putAll, Act.put, List.setIfInBounds_toArray, List.set_cons_zero, List.set_cons_succ]
   rfl
  have HR5 := Aside0.mk hRv
  have M5 := Aside0.mk hm1
  have M5b := Aside0.mk hm2
  have KS := Aside0.mk (And.intro hne (And.intro hb1 hb2))
  have HB5 := Aside0.mk hb
  have BX5 := Aside0.mk hbx
  clear hRv hm1 hm2 hne hb1 hb2 hb hbx hHeld HB4 BX4
  refine Pt.pu 8 (some 14) (Pt.bm 11 511) (by kernel_rfl) ?_
  refine one_ (i := 9) (N := some 15) (Pt.bm 11 1023) rfl rfl (by kernel_rfl) (by decide) (fun K hK => ?_)
  refine box_step (by rfl) (N := 15) rfl (cs := #[.int .i64 a0, .slice A5 l2.length c5, .map (some b1), .bool false, .map (some b2)]) (t := 113) ?hr ?_
  case hr => first | (go_simp; done) | (go_simp; rfl)
  intro g hg w6 hbox hb
  have BG6 := Aside0.mk hbox
  have HG := Aside0.mk (show w.heap.size ≤ g by rw [hg]; exact HB5.out.size)
  have BX6 := Aside0.mk (blk_below BX5.out hb)
  have HR6 := Aside0.mk (Kd.R_below HR5.out hb)
  have M6 := Aside0.mk (M5.out.below hb)
  have M6b := Aside0.mk (M5b.out.below hb)
  have HB6 := Aside0.mk (below_step HB5.out hb)
  refine hK.out _ _ ⟨(blk_cell BX6.out 0).trans rfl, (blk_cell BX6.out 1).trans rfl⟩ (fun hHeld => ?_)
  clear hK K hb hbox hg HB5 BX5 HR5 M5 M5b
  refine norm_ (a' := ?_) ?_ ?_
  rotate_left
  ·show Act.put _ (some 15) _ = _
   simp only [Act.put, List.setIfInBounds_toArray, List.set_cons_zero, List.set_cons_succ, i64_w, i32_w]
   rfl
  refine Pt.pu 10 (some 3) (Pt.bm 11 2047) (by kernel_rfl) ?_
  refine done_ (by kernel_rfl) ?_
  have hx1 : w6.cell? ⟨g0, 1, none⟩ = some (.slice A l.length c) := (blk_cell BX6.out 1).trans rfl
  clear hHeld
  go_wp2
  clear hx1
  go_loopg [19] l.length (fun gg s19 wr => ∃ (i : Nat), s19 = .int .i64 (i : Int) ∧ Aside0 (i + gg = l.length) ∧ Aside0 (wr.heap[g]? = some (.cells #[.int .i64 a0, .slice A5 l2.length c5, .map (some b1), .bool false, .map (some b2)] 113 (0, 0))) ∧ Aside0 (Kd.R k71 71 wr w.heap.size (fun k => w.heap.size ≤ k) (.slice A5 l2.length c5) l2) ∧ Aside0 (Mp.Is ekF okF (Value.int .i64) wr b1 (impl_forkingOf.seen l i)) ∧ Aside0 (Mp.Is ek3 ok3 (Value.int .i64) wr b2 (fun _ => none)) ∧ Aside0 (Below w.heap.size w wr))
  case atStart => exact ⟨0, rfl, ⟨by omega⟩, BG6, HR6, M6, M6b, HB6⟩
  case round =>
   clear BG6 BX6 HR6 M6 M6b HB6
   obtain ⟨i, rfl, HI, BG, HRr, M, Mb, HB⟩ := hrel
   by_cases c2 : i < l.length
   ·obtain ⟨k1, rfl⟩ : ∃ k1, gk = k1 + 1 := ⟨gk - 1, by have := HI.out; omega⟩
    have c2a : (i : Int) < (l.length : Int) := by omega
    have c2b : decide ((i : Int) < (l.length : Int)) = true := decide_eq_true c2a
    have c2c : (0 : Int) ≤ (i : Int) := by omega
    have c2d : decide ((0 : Int) ≤ (i : Int)) = true := decide_eq_true c2c
    obtain ⟨ad, rfl, hx0, hx1, hx2⟩ := at_T71 HR.out (i : Int) c2c c2a
    have OK := Aside0.mk (C1.out (rd_T71 l (i : Int)) (by unfold rd_T71; rw [List.getD_eq_getElem?_getD, Int.toNat_natCast, List.getElem?_eq_getElem c2]; exact List.getElem_mem c2))
    obtain ⟨x, hx⟩ : ∃ x, rd_T71 l (i : Int) = x := ⟨_, rfl⟩
    rw [hx] at hx0 hx1 hx2 OK
    simp only [Int.toNat_natCast] at hx0 hx1 hx2
    have HX := Aside0.mk hx
    replace hx0 := (HB.out.cell (World.block_lt_of_cell? w _ hx0)).trans hx0
    replace hx1 := (HB.out.cell (World.block_lt_of_cell? w _ hx1)).trans hx1
    replace hx2 := (HB.out.cell (World.block_lt_of_cell? w _ hx2)).trans hx2
    have hw1 : wrap64 ((i : Int) + 2) = (i : Int) + 2 := by have := HL.out; unfold wrap64; omega
    have hw1' : (IntKind.i64.wrap ((i : Int) + 2)) = (i : Int) + 2 := (i64_w _).trans hw1
    have hw2 : wrap64 ((i : Int) + 1) = (i : Int) + 1 := by have := HL.out; unfold wrap64; omega
    have hw2' : (IntKind.i64.wrap ((i : Int) + 1)) = (i : Int) + 1 := (i64_w _).trans hw2
    clear hx
    go_wp2_with ((with_reducible refine gate_dst (N := 5) rfl ?_); refine box_event ?hg (N := 5) ?hd (cs := #[.int .i64 0, .int .i64 0, .int .i64 0]) (t := 71) ?hr ?_; (case hd => rfl); (case hg => rfl); (case hr => first | (go_simp; done) | (go_simp; rfl)); intro gb hgb w7 hbox hb; have BX0 := Aside0.mk hbox; have HB7 := Aside0.mk hb; have hz0 : w7.cell? ⟨gb, 0, none⟩ = some (.int .i64 0) := (blk_cell BX0.out 0).trans rfl; have hz1 : w7.cell? ⟨gb, 1, none⟩ = some (.int .i64 0) := (blk_cell BX0.out 1).trans rfl; have hz2 : w7.cell? ⟨gb, 2, none⟩ = some (.int .i64 0) := (blk_cell BX0.out 2).trans rfl; have hy0 := blk_frozen BX0.out 0; have hy1 := blk_frozen BX0.out 1; have hy2 := blk_frozen BX0.out 2; have HGB := Aside0.mk hgb; clear hgb hbox hb)
    have n0 : Aside0 (Below wr.heap.size wr (((w7.setCell ⟨gb, 0, none⟩ (.int .i64 x.f0)).setCell ⟨gb, 1, none⟩ (.int .i64 x.f1)).setCell ⟨gb, 2, none⟩ (.int .i64 x.f2))) := ⟨below_set (below_set (below_set HB7.out (Nat.le_of_eq HGB.out.symm)) (Nat.le_of_eq HGB.out.symm)) (Nat.le_of_eq HGB.out.symm)⟩
    have n1 : Aside0 ((((w7.setCell ⟨gb, 0, none⟩ (.int .i64 x.f0)).setCell ⟨gb, 1, none⟩ (.int .i64 x.f1)).setCell ⟨gb, 2, none⟩ (.int .i64 x.f2)).heap[gb]? = some (.cells #[.int .i64 x.f0, .int .i64 x.f1, .int .i64 x.f2] 71 (0, 0))) := ⟨blk_put (blk_put (blk_put BX0.out 0 _ rfl) 1 _ rfl) 2 _ rfl⟩
    generalize (((w7.setCell ⟨gb, 0, none⟩ (.int .i64 x.f0)).setCell ⟨gb, 1, none⟩ (.int .i64 x.f1)).setCell ⟨gb, 2, none⟩ (.int .i64 x.f2)) = w8 at n0 n1 ⊢
    clear hz0 hz1 hz2 hy0 hy1 hy2 BX0 HB7 hx0 hx1 hx2
    have BG8 := Aside0.mk (blk_below BG.out n0.out)
    refine start_ (n := 8) (S := fun w' => w'.cell? ⟨g, 2, none⟩ = some (.map (some b1)) ∧ w'.cell? ⟨gb, 0, none⟩ = some (.int .i64 x.f0) ∧ w'.cell? ⟨gb, 1, none⟩ = some (.int .i64 x.f1) ∧ w'.cell? ⟨gb, 2, none⟩ = some (.int .i64 x.f2)) (ds := [7]) (Pt.bm 8 0) (by kernel_rfl) rfl rfl ⟨(blk_cell BG8.out 2).trans rfl, (blk_cell n1.out 0).trans rfl, (blk_cell n1.out 1).trans rfl, (blk_cell n1.out 2).trans rfl⟩ (fun hHeld => ?_)
    have HB9 := Aside0.mk (below_step n0.out (below_drew (Below.refl _ _)))
    generalize w8.drew = w9 at HB9 hHeld ⊢
    clear n0 n1 BG8
    have BG9 := Aside0.mk (blk_below BG.out HB9.out)
    have M9 := Aside0.mk (M.out.below HB9.out)
    have M9b := Aside0.mk (Mb.out.below HB9.out)
    have HR9 := Aside0.mk (Kd.R_below HRr.out HB9.out)
    have HBB := Aside0.mk (below_step HB.out HB9.out)
    refine Pt.pu 0 (some 24) (Pt.bm 8 1) (by kernel_rfl) ?_
    refine Pt.pu 1 (some 25) (Pt.bm 8 3) (by kernel_rfl) ?_
    refine Pt.pu 2 (some 26) (Pt.bm 8 7) (by kernel_rfl) ?_
    refine Pt.tk 3 (some 27) (Pt.bm 8 15) rfl rfl (by kernel_rfl) hHeld (Or.inl ⟨by rfl, by rintro w' ⟨s0, s1, s2, s3⟩; go_simp; with_reducible rfl⟩) ?_
    refine Pt.tk 4 (some 28) (Pt.bm 8 31) rfl rfl (by kernel_rfl) hHeld (Or.inl ⟨by rfl, by rintro w' ⟨s0, s1, s2, s3⟩; go_simp; with_reducible rfl⟩) ?_
    refine Pt.pu 5 (some 29) (Pt.bm 8 63) (by kernel_rfl) ?_
    refine Pt.pu 6 (some 30) (Pt.bm 8 127) (by kernel_rfl) ?_
    refine last_ (i := 7) (N := none) (Pt.bm 8 255) rfl rfl (by kernel_rfl) (by decide) (fun K hK => ?_)
    refine Mp.store_step (by rfl) rfl (.tmp 27) (.tmp 28) (.tmp 30) rfl rfl M9.out keyF Try.underlying110 x rfl OK.out ((i : Int) + 2) ?hv ?_
    case hv =>
     show Value.int .i64 _ = _
     first | rw [hw1] | rw [hw1'] | simp [hw1, hw1']
    intro w10 hM10 hg10 hz10
    refine hK.out _ _ ?_
    clear hK K hHeld
    refine done_ (by kernel_rfl) ?_
    have BG10 := Aside0.mk (blk_grown BG9.out hg10 (by simpa using (M9.out.ne_blk BG9.out).symm))
    have M10b := Aside0.mk (M9b.out.grown hg10 (by simpa using KS.out.1.symm))
    have HO10 := Aside0.mk (Kd.R_map HR9.out M9.out hg10)
    have HB10 := Aside0.mk (pw_below_grown HBB.out (some b1) (by exact HBB.out.size) hg10 (fun k hk => by cases hk; exact KS.out.2.1))
    have M10 : Aside0 (Mp.Is ekF okF (Value.int .i64) w10 b1 (impl_forkingOf.seen l (i + 1))) := ⟨by
     have e : impl_forkingOf.seen l (i + 1) = fun y' => if y' = x then some ((i : Int) + 2) else impl_forkingOf.seen l i y' := by
      funext y'
      rw [← HX.out]
      rfl
     rw [e]
     exact hM10⟩
    clear hM10 hg10 hz10
    go_wp2
    go_roundg k1
    case measure => exact Nat.lt_succ_self _
    case rel => exact ⟨i + 1, by first | rfl | (simp only [Int.natCast_add]; rfl) | simp [hw2, hw2'], ⟨by have := HI.out; omega⟩, BG10, HO10, M10, M10b, HB10⟩
   ·have hi : i = l.length := by have := HI.out; omega
    subst hi
    have c2b : decide ((l.length : Int) < (l.length : Int)) = false := decide_eq_false (by omega)
    go_wp2
    go_ret
    exact ⟨g, rfl, ⟨_, b1, b2, BG.out, HRr.out, M.out, Mb.out, KS.out.1, HG.out, KS.out.2.1, KS.out.2.2, HG.out, KS.out.2.1, KS.out.2.2⟩, HB.out⟩
 ·rw [if_neg c1] at h2
  cases h2

/-! ### impl_Fork_98: function 98 -/
def impl_Fork_98.f (l0 : List (S71)) : Option (List (S71)) := if l0.length ≤ 5864062014805 then some l0 else none
set_option maxHeartbeats 400000 in
set_option maxRecDepth 100000 in
theorem impl_Fork_98.calls (A0 : Option Addr) (c0 : Nat) (l0 : List (S71)) (r : List (S71)) (w : World) (hr0 : Kd.C k71 w A0 l0.length l0) (hc0 : l0.length ≤ c0) (h : impl_Fork_98.f l0 = some r) :
  Calls Try.prog 98 #[.slice A0 l0.length c0] w fun e w' => ∃ v0_ : Value, e = .returned (v0_) ∧ Kd.R k71 71 w' w.heap.size (fun _ => True) v0_ r ∧ Below w.heap.size w w' := by
 unfold impl_Fork_98.f at h
 by_cases c1 : l0.length ≤ 5864062014805
 ·rw [if_pos c1] at h
  obtain rfl := Option.some.inj h
  clear h
  have HR0 := Aside0.mk hr0
  have C1 := Aside0.mk c1
  clear hr0 c1
  by_cases c2 : l0.length = 0
  ·have c2b : ((l0.length : Int) == 0) = true := by rw [beq_iff_eq]; omega
   have HL := Aside0.mk (List.eq_nil_of_length_eq_zero c2)
   clear c2
   go_enter Try.func98, Try.ntmps98
   go_wp2
   go_ret
   exact ⟨_, rfl, by rw [HL.out]; exact Kd.R_nil _ _ _ _ _, Below.refl _ _⟩
  ·have c2b : ((l0.length : Int) == 0) = false := by rw [beq_eq_false_iff_ne]; omega
   have c2c : (l0.length == 0) = false := by rw [beq_eq_false_iff_ne]; omega
   have HP := Aside0.mk (Nat.pos_of_ne_zero c2)
   clear c2
   go_enter Try.func98, Try.ntmps98
   go_wp2_with (first | ((with_reducible refine gate_dst (N := 9) rfl ?_); refine Kd.R_make k71 _ 71 rfl (N := 9) rfl 23 _ _ rfl (l0.length : Int) rfl rfl Try.underlying23 (.agg #[(.int .i64 0), (.int .i64 0), (.int .i64 0)]) 24 info71 rfl (by decide) (by omega) z71 (ok := fun _ => True) (okp := fun _ => True) (k71_mkM _ _ _ z71 ) (fun _ hk => hk) trivial (by omega) (by have := C1.out; omega) (Below.refl _ _) (Nat.le_refl _) ?_; intro v178 w4 ho5 hb hg_ hnew_; clear hg_ hnew_; have HO := Aside0.mk ho5; have HB := Aside0.mk hb; clear hb ho5) | ((with_reducible refine gate_dst (N := 12) rfl ?_); refine Copy.R_copyK k71 (w0 := w) (xs := List.replicate (l0.length : Int).toNat z71) (ys := l0) w.heap.size 71 rfl _ _ 23 23 rfl Try.underlying23 (by kernel_rfl) (okp := fun _ => False) rfl rfl (by simp) HP.out HO.out (Kd.C_below HR0.out HB.out) (fun _ _ h_ => h_) (fun _ h_ => absurd h_ (by simp)) HB.out ?_; intro w5 ho5 hb; clear HB; have HO5 := Aside0.mk ho5; have HB := Aside0.mk hb; clear hb ho5))
   go_ret
   exact ⟨_, rfl, HO5.out, HB.out⟩
 ·rw [if_neg c1] at h
  exact absurd h (by simp)

/-! ### impl_forking_done: function 56 -/
def impl_forking_done.f (s : FS) (n : Int) : Option (Int × List S71 × Int) := if s.full = true then some (0, [], -1) else (impl_Fork_98.f s.forks).bind fun l => some (s.vars, l, n)
set_option maxHeartbeats 4000000 in
set_option maxRecDepth 100000 in
theorem impl_forking_done.calls (s : FS) (n r1 : Int) (r2 : List S71) (r3 : Int) (base : Nat) (ok : Nat → Prop) (g : Nat) (w : World) (hI : IsF w base ok g s) (h : impl_forking_done.f s n = some (r1, r2, r3)) :
  Calls Try.prog 56 #[.pointer (some ⟨g, 0, none⟩), .int .i64 n] w fun e w' => ∃ v1 : Value, e = .returned (.tuple #[.agg #[.int .i64 r1, v1], .int .i64 r3]) ∧ Kd.R k71 71 w' w.heap.size (fun _ => True) v1 r2 ∧ Below w.heap.size w w' := by
 have hu25 := Try.underlying25
 have hu71 := Try.underlying71
 have hu113 := Try.underlying113
 obtain ⟨u, b1, b2, hg, hR, _⟩ := hI
 obtain ⟨A, c, rfl⟩ := Kd.R_slice hR
 have BG := Aside0.mk hg
 have HR := Aside0.mk (Kd.R_reads' hR).2.2
 have HC := Aside0.mk (Kd.R_reads' hR).2.1
 unfold impl_forking_done.f at h
 have HLT := Aside0.mk (blk_lt hg)
 clear hR hg
 by_cases c1 : s.full = true
 ·rw [if_pos c1] at h
  simp only [Option.some.injEq, Prod.mk.injEq] at h
  obtain ⟨rfl, rfl, rfl⟩ := h
  go_enter Try.func56, Try.ntmps56
  go_wp2_with ((with_reducible refine gate_dst (N := 4) rfl ?_); refine box_event ?hg (N := 4) ?hd (cs := #[.int .i64 0, .slice none 0 0]) (t := 25) ?hr ?_; (case hd => rfl); (case hg => rfl); (case hr => first | (go_simp; done) | (go_simp; rfl)); intro gb hgb w3 hbox hb; have BX0 := Aside0.mk hbox; have HB3 := Aside0.mk hb; have hz0 : w3.cell? ⟨gb, 0, none⟩ = some (.int .i64 0) := (blk_cell BX0.out 0).trans rfl; have hz1 : w3.cell? ⟨gb, 1, none⟩ = some (.slice none 0 0) := (blk_cell BX0.out 1).trans rfl; have hy0 := blk_frozen BX0.out 0; have hy1 := blk_frozen BX0.out 1; have HGB := Aside0.mk hgb; have BG3 := Aside0.mk (blk_below BG.out hb); have hi3 : w3.cell? ⟨g, 3, none⟩ = some (.bool true) := (blk_cell BG3.out 3).trans (by rw [← c1]; rfl); clear hgb hbox hb)
  refine bodyPost_ret (results_ct rfl _ _ gb 25 #[.int .i64 0, .slice none 0 0] (0, 0) _ rfl (blk_put (blk_put BX0.out 0 _ rfl) 1 _ rfl) Try.underlying25 rfl (by kernel_rfl)) rfl ?_
  exact ⟨_, rfl, Kd.R_nil _ _ _ _ _, below_set (below_set HB3.out (Nat.le_of_eq HGB.out.symm)) (Nat.le_of_eq HGB.out.symm)⟩
 ·rw [if_neg c1] at h
  obtain ⟨l, h1, h2⟩ := Option.bind_eq_some_iff.mp h
  simp only [Option.some.injEq, Prod.mk.injEq] at h2
  obtain ⟨rfl, rfl, rfl⟩ := h2
  have H1 := Aside0.mk h1
  replace c1 := Bool.eq_false_iff.mpr c1
  clear h h1
  go_enter Try.func56, Try.ntmps56
  go_wp2_with ((with_reducible refine gate_dst (N := 4) rfl ?_); refine box_event ?hg (N := 4) ?hd (cs := #[.int .i64 0, .slice none 0 0]) (t := 25) ?hr ?_; (case hd => rfl); (case hg => rfl); (case hr => first | (go_simp; done) | (go_simp; rfl)); intro gb hgb w3 hbox hb; have BX0 := Aside0.mk hbox; have HB3 := Aside0.mk hb; have HGB := Aside0.mk hgb; have BG3 := Aside0.mk (blk_below BG.out hb); have hi3 : w3.cell? ⟨g, 3, none⟩ = some (.bool false) := (blk_cell BG3.out 3).trans (by rw [← c1]; rfl); clear hgb hbox hb)
  refine start_ (n := 15) (S := fun w' => w'.cell? ⟨g, 0, none⟩ = some (.int .i64 s.vars) ∧ w'.cell? ⟨g, 1, none⟩ = some (.slice A s.forks.length c)) (ds := [13]) (Pt.bm 15 0) (by kernel_rfl) rfl rfl ⟨(blk_cell BG3.out 0).trans rfl, (blk_cell BG3.out 1).trans rfl⟩ (fun hHeld => ?_)
  have hd1 : Below w3.heap.size w3 w3.drew := below_drew (Below.refl _ _)
  have n0 := Aside0.mk (below_step HB3.out hd1)
  have n1 := Aside0.mk (blk_drew BX0.out)
  clear hi3
  generalize w3.drew = w4 at n0 n1 hHeld ⊢
  clear hd1 HB3 BX0 BG3
  have HB4 := n0
  have BX4 := n1
  clear n0 n1
  have BG4 := Aside0.mk (blk_below BG.out HB4.out)
  have HR4 := Aside0.mk (Kd.C_below HR.out HB4.out)
  refine Pt.pu 0 (some 11) (Pt.bm 15 1) (by kernel_rfl) ?_
  refine Pt.pu 1 (some 12) (Pt.bm 15 3) (by kernel_rfl) ?_
  refine Pt.pu 2 (some 13) (Pt.bm 15 7) (by kernel_rfl) ?_
  refine Pt.pu 3 (some 14) (Pt.bm 15 15) (by kernel_rfl) ?_
  refine Pt.tk 4 (some 15) (Pt.bm 15 31) rfl rfl (by kernel_rfl) hHeld (Or.inl ⟨by rfl, by rintro w' ⟨s0, s1⟩; go_simp; with_reducible rfl⟩) ?_
  refine Pt.pu 5 (some 16) (Pt.bm 15 63) (by kernel_rfl) ?_
  refine Pt.pu 6 (some 17) (Pt.bm 15 127) (by kernel_rfl) ?_
  refine Pt.pu 7 (some 18) (Pt.bm 15 255) (by kernel_rfl) ?_
  refine Pt.pu 8 (some 19) (Pt.bm 15 511) (by kernel_rfl) ?_
  refine Pt.tk 9 (some 20) (Pt.bm 15 1023) rfl rfl (by kernel_rfl) hHeld (Or.inl ⟨by rfl, by rintro w' ⟨s0, s1⟩; go_simp; with_reducible rfl⟩) ?_
  refine Pt.pu 12 (some 23) (Pt.bm 15 5119) (by kernel_rfl) ?_
  refine one_ (i := 10) (N := some 21) (Pt.bm 15 6143) rfl rfl (by kernel_rfl) (by decide) (fun K hK => ?_)
  refine goes_ Try.func98 (by kernel_rfl) rfl #[.slice A s.forks.length c] (by rfl) rfl rfl (by (try simp only [List.map_toArray, List.map_cons, List.map_nil]); first | done | rfl) ?_
  refine (impl_Fork_98.calls A c s.forks _ _ HR4.out HC.out H1.out).mono ?_
  rintro e w5 ⟨v0, rfl, hR5, hb5⟩
  refine ⟨_, rfl, ?_⟩
  obtain ⟨A5, c5, rfl⟩ := Kd.R_slice hR5
  have HR5 := Aside0.mk hR5
  have HB5 := Aside0.mk hb5
  have BG5 := Aside0.mk (blk_below BG4.out hb5)
  have BX5 := Aside0.mk (blk_below BX4.out hb5)
  clear hR5 hb5
  refine hK.out _ _ ⟨(blk_cell BG5.out 0).trans rfl, (blk_cell BG5.out 1).trans rfl⟩ (fun hHeld => ?_)
  clear hK K
  refine norm_ (a' := ?_) ?_ ?_
  rotate_left
  ·show Act.put _ (some 21) _ = _
   simp only [Act.put, List.setIfInBounds_toArray, List.set_cons_zero, List.set_cons_succ, i64_w, i32_w]
   rfl
  refine Pt.pu 11 (some 22) (Pt.bm 15 8191) (by kernel_rfl) ?_
  refine last_ (i := 13) (N := none) (Pt.bm 15 16383) rfl rfl (by kernel_rfl) (by decide) (fun K hK => ?_)
  have hs0 : w5.cell? ⟨gb, 0, none⟩ = some (.int .i64 0) := (blk_cell BX5.out 0).trans rfl
  have hs1 : w5.cell? ⟨gb, 1, none⟩ = some (.slice none 0 0) := (blk_cell BX5.out 1).trans rfl
  have hfs0 := blk_frozen BX5.out 0
  have hfs1 := blk_frozen BX5.out 1
  refine skip_ (w1 := ?_) (by rfl) rfl ?_ ?_
  rotate_left
  ·go_simp
   rfl
  refine hK.out _ _ ?_
  clear hK K hs0 hs1 hfs0 hfs1
  refine Pt.pu 14 (some 5) (Pt.bm 15 32767) (by kernel_rfl) ?_
  refine done_ (by kernel_rfl) ?_
  try go_wp2
  refine bodyPost_ret (results_ct rfl _ _ gb 25 #[.int .i64 s.vars, .slice A5 l.length c5] (0, 0) _ rfl (blk_put (blk_put BX5.out 0 _ rfl) 1 _ rfl) Try.underlying25 rfl (by kernel_rfl)) rfl ?_
  exact ⟨_, rfl, Kd.R_far (p := ⟨gb, 1, none⟩) (Kd.R_far (p := ⟨gb, 0, none⟩) (Kd.R_types (Kd.R_lower HR5.out HB4.out.size) BX5.out (by decide)) (fun _ hk => hk.2) _) (fun _ hk => hk.2) _ |> fun h_ => Kd.R_mono h_ (fun _ _ => trivial), below_set (below_set (below_step HB4.out HB5.out) (Nat.le_of_eq HGB.out.symm)) (Nat.le_of_eq HGB.out.symm)⟩

/-! ### impl_in: function 52 -/
def impl_in.f (a0 : Int) (a1 : Int) (a2 : Int) : Option (Bool) := if a0 ≥ a1 then (some (decide (a0 ≤ a2))) else (some false)
set_option maxHeartbeats 8000000 in
set_option maxRecDepth 100000 in
theorem impl_in.calls (a0 : Int) (a1 : Int) (a2 : Int) (r : Bool) (w : World) (h : impl_in.f a0 a1 a2 = some r) :
  Calls Try.prog 52 #[.int .i64 a0, .int .i64 a1, .int .i64 a2] w fun e w' => e = .returned (.bool r) ∧ Drawn0 w w' := by
 have H : (if a0 ≥ a1 then (some (decide (a0 ≤ a2))) else (some false)) = some r := h
 clear h
 by_cases c4 : a0 ≥ a1
 ·rw [if_pos c4] at H
  have c4b0 : decide (a1 ≤ a0) = true := decide_eq_true c4
  clear c4
  obtain rfl := Option.some.inj H
  go_enter Try.func52, Try.ntmps52
  go_wp2
  go_ret
  exact ⟨by first | rfl | (simp; done) | (simp [*]; done), by repeat (first | exact Drawn0.refl _ | apply Drawn0.step)⟩
 ·rw [if_neg c4] at H
  have c4b0 : decide (a1 ≤ a0) = false := decide_eq_false c4
  clear c4
  obtain rfl := Option.some.inj H
  go_enter Try.func52, Try.ntmps52
  go_wp2
  go_ret
  exact ⟨by first | rfl | (simp; done) | (simp [*]; done), by repeat (first | exact Drawn0.refl _ | apply Drawn0.step)⟩

end Go.Proofs.Ytpcompnmadpljaa.QFnExactDiagramOf
