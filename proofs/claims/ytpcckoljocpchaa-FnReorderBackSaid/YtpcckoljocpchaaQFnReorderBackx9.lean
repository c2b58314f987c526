-- Written by a program of this session (mk.py). Lean checks it.
import Derived.Test.YtpcckoljocpchaaQFnReorderBackx0
import Derived.Test.YtpcckoljocpchaaQFnReorderBackx2
import Derived.Test.YtpcckoljocpchaaQFnReorderBackx6
import Derived.Test.YtpcckoljocpchaaQFnReorderBackx7
import Derived.Test.YtpcckoljocpchaaQFnReorderBackx8
namespace Go.Proofs.Ytpcckoljocpchaa.QFnReorderBack
open Go.RowKit Go.Proofs.YtpcckoljocpchaaW.PrintWords Go.Proofs.YtpcckoljocpchaaW.PrintLast Go.Proofs.YtpcckoljocpchaaW.PrintMore
attribute [local go_sem] max2_int min2_int max_two min_two max_three min_three max_four min_four   -- for this text's walks alone
set_option linter.unusedVariables false
set_option linter.unusedSimpArgs false

/-! ### impl_forking_made: function 119 -/
def impl_forking_made.f : Nat → (List Int → Option Bool) → FS → List Int → Option (FS × Int)
 | 0, _, _, _ => none
 | k + 1, is, s, bits => if s.full = true then some (s, 0)
  else if (bits.length : Int) = s.vars then (is bits).bind fun b => (impl_bit.f b).bind fun r => some (s, r)
  else if bits.length ≤ 1000000 then (impl_forking_made.f k is s (bits ++ [0])).bind fun p1 => (impl_forking_made.f k is p1.1 (bits ++ [1])).bind fun p2 => impl_forking_fork.f p2.1 (bits.length : Int) p1.2 p2.2 else none
theorem impl_forking_made.le {is1 is2 : List Int → Option Bool} (h : ∀ bs, LeO (is1 bs) (is2 bs)) : ∀ (k : Nat) (s : FS) (bits : List Int), LeO (impl_forking_made.f k is1 s bits) (impl_forking_made.f (k + 1) is2 s bits)
 | 0 => fun _ _ r h => by simp [impl_forking_made.f] at h
 | k + 1 => fun s bits => by
  have ih := impl_forking_made.le h k
  rw [impl_forking_made.f, impl_forking_made.f]
  exact LeO.ite (LeO.refl _) (LeO.ite (LeO.bind (h _) (fun _ => LeO.refl _)) (LeO.ite (LeO.bind (ih _ _) (fun _ => LeO.bind (ih _ _) (fun _ => LeO.refl _))) (LeO.refl _)))
set_option maxHeartbeats 16000000 in
set_option maxRecDepth 100000 in
theorem impl_forking_made.calls : ∀ (k : Nat) (is : List Int → Option Bool) (gv : Nat) (lb : Array Value) (eg : ∀ args w, (callFunc gv args).run Try.prog w = .ok (.enter gv args) w) (s s' : FS) (bits : List Int) (r : Int) (A : Option Addr) (c : Nat) (ok : Nat → Prop) (g : Nat) (w0 w : World) (_ : Below w0.heap.size w0 w) (_ : IsF w w0.heap.size ok g s) (_ : ∀ k, w.heap.size ≤ k → ok k)
  (_ : ∀ W, Kept w W ok → Kd.C (Kd.int .i64) W A bits.length bits) (_ : bits.length ≤ c)
  (_ : ∀ (bs : List Int) (b : Bool), is bs = some b → ∀ W, Kept w W ok → ∀ A c, Kd.C (Kd.int .i64) W A bs.length bs → bs.length ≤ c → Calls Try.prog gv (#[.slice A bs.length c] ++ lb) W fun e w' => e = .returned (.bool b) ∧ Below W.heap.size W w')
  (_ : impl_forking_made.f k is s bits = some (s', r)),
  Calls Try.prog 119 #[.pointer (some ⟨g, 0, none⟩), .slice A bits.length c, .func (.func gv) #[] lb] w fun e w' => e = .returned (.int .i64 r) ∧ IsF w' w0.heap.size ok g s' ∧ Below w0.heap.size w0 w' ∧ Kept w w' ok
 | 0 => fun _ _ _ _ _ _ _ _ _ _ _ _ _ _ _ _ _ _ _ _ h => by simp [impl_forking_made.f] at h
 | k + 1 => fun is gv lb eg s s' bits r A c ok g w0 w hB hI hf hr hc hv h => by
  have IH := Aside0.mk (impl_forking_made.calls k)
  have hu25 := Try.underlying48
  have hu113 := Try.underlying146
  have hu49 := Try.underlying38
  have HI := Aside0.mk hI
  have HB := Aside0.mk hB
  have HF := Aside0.mk hf
  have HR := Aside0.mk hr
  have HC := Aside0.mk hc
  have HV := Aside0.mk hv
  rw [impl_forking_made.f] at h
  obtain ⟨u, b1, b2, hg, _⟩ := hI
  have BG := Aside0.mk hg
  have hg0 : w.cell? ⟨g, 0, none⟩ = some (.int .i64 s.vars) := (blk_cell hg 0).trans rfl
  have hg3 : w.cell? ⟨g, 3, none⟩ = some (.bool s.full) := (blk_cell hg 3).trans rfl
  clear hB hf hr hc hv hg
  cases hfl : s.full with
  | true =>
   rw [if_pos hfl] at h
   simp only [Option.some.injEq, Prod.mk.injEq] at h
   obtain ⟨rfl, rfl⟩ := h
   rw [hfl] at hg3
   go_enter Try.func119, Try.ntmps119
   go_wp2
   go_ret
   exact ⟨rfl, HI.out, HB.out, Kept.refl _ _⟩
  | false =>
  rw [if_neg (by rw [hfl]; decide)] at h
  rw [hfl] at hg3
  by_cases c1 : (bits.length : Int) = s.vars
  ·rw [if_pos c1] at h
   obtain ⟨b, hb, h2⟩ := Option.bind_eq_some_iff.mp h
   obtain ⟨r2, hr2, h3⟩ := Option.bind_eq_some_iff.mp h2
   simp only [Option.some.injEq, Prod.mk.injEq] at h3
   obtain ⟨rfl, rfl⟩ := h3
   have HIS := Aside0.mk hb
   have HBT := Aside0.mk hr2
   have e1 : ((bits.length : Int) == s.vars) = true := beq_iff_eq.mpr c1
   clear h h2 hb hr2 c1
   go_enter Try.func119, Try.ntmps119
   go_wp2_with (first | (go_at_fn gv; refine (HV.out bits b HIS.out w (Kept.refl _ _) A c (HR.out w (Kept.refl _ _)) HC.out).mono ?_; rintro e w5 ⟨rfl, hb⟩; have HB5 := Aside0.mk hb; clear hb) | (go_at_call 134; (with_reducible refine (impl_bit.calls b r2 _ HBT.out).mono ?_); rintro e w6 ⟨rfl, hb⟩; have HB6 := Aside0.mk (below_step HB5.out hb.below); clear hb))
   go_ret
   exact ⟨rfl, HI.out.below HB6.out, below_then HB.out HB.out.size HB6.out, Kept.of_below HB6.out _⟩
  rw [if_neg c1] at h
  have e1 : ((bits.length : Int) == s.vars) = false := beq_eq_false_iff_ne.mpr c1
  clear c1
  by_cases c2 : bits.length ≤ 1000000
  ·rw [if_pos c2] at h
   obtain ⟨⟨s1, lo⟩, hp1, h2⟩ := Option.bind_eq_some_iff.mp h
   obtain ⟨⟨s2, hi⟩, hp2, h3⟩ := Option.bind_eq_some_iff.mp h2
   simp only at hp2 h3
   have P1 := Aside0.mk hp1
   have P2 := Aside0.mk hp2
   have H := Aside0.mk h3
   have C2 := Aside0.mk c2
   clear h h2 h3 hp1 hp2 c2
   go_enter Try.func119, Try.ntmps119
   go_wp2_with (first | (go_at_call 139; (with_reducible refine (slices_Clip_int_int.calls A bits.length c w HC.out).mono ?_); rintro e w_ ⟨rfl, hw_⟩; replace hw_ := hw_.symm; subst hw_) | ((with_reducible refine gate_builtin (b := .append) (xs := #[.tmp 27, .tmp 28]) rfl ?_); at_builtin; refine Cl.append rfl (.tmp 27) (.tmp 28) 38 3 rfl Try.underlying38 info3 (by decide) A bits 0 rfl (by first | (go_simp; done) | (go_simp; rfl)) (HR.out w (Kept.refl _ _)) (by have := C2.out; omega) ?_; intro v5 w5 hR_ hb_; obtain ⟨y5, hy_⟩ : ∃ y, bits ++ [0] = y := ⟨_, rfl⟩; rw [hy_] at hR_; have Y5 := Aside0.mk hy_; clear hy_; obtain ⟨A5, c5, rfl⟩ := Kd.R_slice hR_; have RB5 := Aside0.mk hR_; have HW5 := Aside0.mk hb_; clear hR_ hb_) | (go_at_call 119; have KN5 := Aside0.mk ((Kept.refl w ok).below HW5.out); have OL5 : Aside0 (∀ k_, (Value.slice A5 y5.length c5).ownBlock = some k_ → k_ < w5.heap.size ∧ w.heap.size ≤ k_) := ⟨fun k_ h_ => ⟨Kd.R_lt RB5.out k_ h_, Kd.R_base RB5.out k_ h_⟩⟩; have IN5 : Aside0 (IsF w5 w0.heap.size (fun k_ => ok k_ ∧ some k_ ≠ (Value.slice A5 y5.length c5).ownBlock) g s) := ⟨IsF.mono ((HI.out).bound.step (fun k_ hk_ _ => HW5.out.block k_ hk_.2.2)) (fun k_ hk_ => ⟨hk_.1, fun e_ => by have := OL5.out k_ e_.symm; have := hk_.2.2; omega⟩)⟩; have FN5 : Aside0 (∀ k_, w5.heap.size ≤ k_ → ok k_ ∧ some k_ ≠ (Value.slice A5 y5.length c5).ownBlock) := ⟨fun k_ h_ => ⟨HF.out k_ (Nat.le_trans KN5.out.1 h_), fun e_ => by have := OL5.out k_ e_.symm; omega⟩⟩; have BN5 := Aside0.mk (below_then (HB.out) (HB.out).size HW5.out); (with_reducible refine (IH.out is gv lb eg s s1 y5 lo A5 c5 (fun k_ => ok k_ ∧ some k_ ≠ (Value.slice A5 y5.length c5).ownBlock) g w0 _ BN5.out IN5.out FN5.out (Kd.C_kept_own (Kd.R_tight rfl RB5.out) (fun k_ h_ h2_ => absurd h_ h2_.2)) (Kd.R_reads' RB5.out).2.1 (fun bs b_ hb_ W_ hk_ => HV.out bs b_ hb_ W_ (KN5.out.then_ hk_ (fun _ h_ => .inl h_.1))) (by rw [← Y5.out]; exact P1.out)).mono ?_); rintro e w6 ⟨rfl, hi_, hb_, hk_⟩; have I6 := Aside0.mk (hi_.mono (fun _ h_ => h_.1)); have BL6 := Aside0.mk hb_; have K6 := Aside0.mk (KN5.out.then_ hk_ (fun _ h_ => .inl h_.1)); clear hi_ hb_ hk_) | (go_at_call 139; (with_reducible refine (slices_Clip_int_int.calls A bits.length c w6 HC.out).mono ?_); rintro e w_ ⟨rfl, hw_⟩; replace hw_ := hw_.symm; subst hw_) | ((with_reducible refine gate_builtin (b := .append) (xs := #[.tmp 34, .tmp 35]) rfl ?_); at_builtin; refine Cl.append rfl (.tmp 34) (.tmp 35) 38 3 rfl Try.underlying38 info3 (by decide) A bits 1 rfl (by first | (go_simp; done) | (go_simp; rfl)) (HR.out w6 K6.out) (by have := C2.out; omega) ?_; intro v7 w7 hR_ hb_; obtain ⟨y7, hy_⟩ : ∃ y, bits ++ [1] = y := ⟨_, rfl⟩; rw [hy_] at hR_; have Y7 := Aside0.mk hy_; clear hy_; obtain ⟨A7, c7, rfl⟩ := Kd.R_slice hR_; have RB7 := Aside0.mk hR_; have HW7 := Aside0.mk hb_; clear hR_ hb_) | (go_at_call 119; have KN7 := Aside0.mk ((K6.out).below HW7.out); have OL7 : Aside0 (∀ k_, (Value.slice A7 y7.length c7).ownBlock = some k_ → k_ < w7.heap.size ∧ w6.heap.size ≤ k_) := ⟨fun k_ h_ => ⟨Kd.R_lt RB7.out k_ h_, Kd.R_base RB7.out k_ h_⟩⟩; have IN7 : Aside0 (IsF w7 w0.heap.size (fun k_ => ok k_ ∧ some k_ ≠ (Value.slice A7 y7.length c7).ownBlock) g s1) := ⟨IsF.mono ((I6.out).bound.step (fun k_ hk_ _ => HW7.out.block k_ hk_.2.2)) (fun k_ hk_ => ⟨hk_.1, fun e_ => by have := OL7.out k_ e_.symm; have := hk_.2.2; omega⟩)⟩; have FN7 : Aside0 (∀ k_, w7.heap.size ≤ k_ → ok k_ ∧ some k_ ≠ (Value.slice A7 y7.length c7).ownBlock) := ⟨fun k_ h_ => ⟨HF.out k_ (Nat.le_trans KN7.out.1 h_), fun e_ => by have := OL7.out k_ e_.symm; omega⟩⟩; have BN7 := Aside0.mk (below_then (BL6.out) (BL6.out).size HW7.out); (with_reducible refine (IH.out is gv lb eg s1 s2 y7 hi A7 c7 (fun k_ => ok k_ ∧ some k_ ≠ (Value.slice A7 y7.length c7).ownBlock) g w0 _ BN7.out IN7.out FN7.out (Kd.C_kept_own (Kd.R_tight rfl RB7.out) (fun k_ h_ h2_ => absurd h_ h2_.2)) (Kd.R_reads' RB7.out).2.1 (fun bs b_ hb_ W_ hk_ => HV.out bs b_ hb_ W_ (KN7.out.then_ hk_ (fun _ h_ => .inl h_.1))) (by rw [← Y7.out]; exact P2.out)).mono ?_); rintro e w8 ⟨rfl, hi_, hb_, hk_⟩; have I8 := Aside0.mk (hi_.mono (fun _ h_ => h_.1)); have BL8 := Aside0.mk hb_; have K8 := Aside0.mk (KN7.out.then_ hk_ (fun _ h_ => .inl h_.1)); clear hi_ hb_ hk_) | (go_at_call 128; have FK8 : Aside0 (∀ k_, w8.heap.size ≤ k_ → ok k_) := ⟨fun k_ h_ => HF.out k_ (Nat.le_trans K8.out.1 h_)⟩; (with_reducible refine (impl_forking_fork.calls s2 s' (bits.length : Int) lo hi r ok g w0 _ BL8.out I8.out FK8.out H.out).mono ?_); rintro e w9 ⟨rfl, hi_, hb_, hk_⟩; have I9 := Aside0.mk hi_; have BL9 := Aside0.mk hb_; have K9 := Aside0.mk (K8.out.then_ hk_ (fun _ h_ => .inl h_)); clear hi_ hb_ hk_))
   go_ret
   exact ⟨rfl, I9.out, BL9.out, K9.out⟩
  ·rw [if_neg c2] at h
   cases h

/-! ### impl_Diagram_value: function 121 -/
def impl_Diagram_value.l0 : Nat → Int → List Int → Int → List (S56) → Option (Int)
 | 0, _, _, _, _ => none
 | k + 1, x1, x2, x259000, x259001 => if x1 ≥ 2 then (if 0 ≤ (wrap64 (x1 - 2)) then (if (wrap64 (x1 - 2)) < (x259001.length : Int) then (if 0 ≤ ((rd_T56 x259001 (wrap64 (x1 - 2))).f0) then (if ((rd_T56 x259001 (wrap64 (x1 - 2))).f0) < (x2.length : Int) then (if (rd x2 ((rd_T56 x259001 (wrap64 (x1 - 2))).f0)) = 1 then (impl_Diagram_value.l0 k ((rd_T56 x259001 (wrap64 (x1 - 2))).f2) x2 x259000 x259001) else (impl_Diagram_value.l0 k ((rd_T56 x259001 (wrap64 (x1 - 2))).f1) x2 x259000 x259001)) else (none)) else (none)) else (none)) else (none)) else (some x1)
def impl_Diagram_value.f (k : Nat) (a0_0 : Int) (l0_1 : List (S56)) (a1 : Int) (l2 : List Int) : Option (Int) := impl_Diagram_value.l0 k a1 l2 a0_0 l0_1
theorem impl_Diagram_value.mono_l : ∀ k, (∀ y0 y1 y2 y3, LeO (impl_Diagram_value.l0 k y0 y1 y2 y3) (impl_Diagram_value.l0 (k + 1) y0 y1 y2 y3))
 | 0 => fun _ _ _ _ r h => by simp [impl_Diagram_value.l0] at h
 | k + 1 => by
  have ih0 := impl_Diagram_value.mono_l k
  ·intro y0 y1 y2 y3
   unfold impl_Diagram_value.l0
   repeat' first
   | (with_reducible exact ih0 _ _ _ _)
   | (with_reducible exact LeO.refl _)
   | (with_reducible exact LeO.none _)
   | (with_reducible refine LeO.ite ?_ ?_)
   | (with_reducible refine LeO.bind ?_ (fun _ => ?_))
theorem impl_Diagram_value.mono : ∀ a0 a1 a2 a3 k, LeO (impl_Diagram_value.f k a0 a1 a2 a3) (impl_Diagram_value.f (k + 1) a0 a1 a2 a3) := by
 intro a0 a1 a2 a3 k
 have ih0 := impl_Diagram_value.mono_l k
 unfold impl_Diagram_value.f
 repeat' first
   | (with_reducible exact ih0 _ _ _ _)
   | (with_reducible exact LeO.refl _)
   | (with_reducible exact LeO.none _)
   | (with_reducible refine LeO.ite ?_ ?_)
   | (with_reducible refine LeO.bind ?_ (fun _ => ?_))
set_option maxHeartbeats 8000000 in
set_option maxRecDepth 100000 in
theorem impl_Diagram_value.calls (k : Nat) (a0_0 : Int) (A0_1 : Option Addr) (c0_1 : Nat) (l0_1 : List (S56)) (a1 : Int) (A2 : Option Addr) (c2 : Nat) (l2 : List Int) (r : Int) (w : World) (hr0_1 : Kd.C k56 w A0_1 l0_1.length l0_1) (hc0_1 : l0_1.length ≤ c0_1) (hr2 : Kd.C (Kd.int .i64) w A2 l2.length l2) (hc2 : l2.length ≤ c2) (h : impl_Diagram_value.f k a0_0 l0_1 a1 l2 = some r) :
  Calls Try.prog 121 #[.agg #[.int .i64 a0_0, .slice A0_1 l0_1.length c0_1], .int .i64 a1, .slice A2 l2.length c2] w fun e w' => e = .returned (.int .i64 r) ∧ Below w.heap.size w w' := by
 have hu48 := Try.underlying48
 have hu56 := Try.underlying56
 have HR0_1 := Aside0.mk hr0_1
 have HC0_1 := Aside0.mk hc0_1
 clear hr0_1 hc0_1
 have HR2 := Aside0.mk hr2
 have HC2 := Aside0.mk hc2
 clear hr2 hc2
 have HB := Aside0.mk (Below.refl w.heap.size w)
 have H : (impl_Diagram_value.l0 k a1 l2 a0_0 l0_1) = some r := h
 clear h
 have H' := Aside0.mk H
 clear H
 go_enter Try.func121, Try.ntmps121
 go_wp2_with (first | ((with_reducible refine gate_dst (N := 3) rfl ?_); refine box_event ?hg (N := 3) ?hd (cs := #[.int .i64 a0_0, .slice A0_1 l0_1.length c0_1]) (t := 48) ?hr ?_; (case hd => rfl); (case hg => rfl); (case hr => first | (go_simp; done) | (go_simp; rfl)); intro gb258 hg w4 hbox hb; have n0_ := Aside0.mk (below_step hbB hb); have n1_ := Aside0.mk (hbox); have n2_ := Aside0.mk ((gwb hg (below_size hbB) : w.heap.size ≤ gb258)); have n3_ := n2_; clear HB; have HB := n0_; have BK258 := n1_; have GW258 := n2_; have GE258 := n3_; clear n0_ n1_ n2_ n3_; clear hb hbox hg))
 go_loopg [1] k (fun kq v1 w' => ∃ (x1_1 : Int), v1 = .int .i64 x1_1 ∧ Aside0 (impl_Diagram_value.l0 kq x1_1 l2 a0_0 l0_1 = some r) ∧ Aside0 (kq ≤ k) ∧ Aside0 (w'.heap[gb258]? = some (.cells #[.int .i64 a0_0, (.slice A0_1 l0_1.length c0_1)] 48 (0, 0))) ∧ Aside0 (Below w.heap.size w w'))
 case atStart => exact ⟨(a1), rsd, H', ⟨Nat.le_refl _⟩, ⟨bvK BK258.out⟩, ⟨hbC⟩⟩
 case round =>
  clear H'
  try clear c1
  try clear c2
  try clear p2
  obtain ⟨x1_1, rfl, HA, HK1, BK258, HB⟩ := hrel
  cases gk with
  | zero => exact absurd HA.out (by simp [impl_Diagram_value.l0])
  | succ k1 =>
   have H := HA.out
   clear HA
   simp only [impl_Diagram_value.l0] at H
   by_cases c5 : x1_1 ≥ 2
   ·rw [if_pos c5] at H
    have c5b0 : decide (2 ≤ x1_1) = true := decide_eq_true c5
    clear c5
    obtain ⟨ji6, hji6⟩ : ∃ j_ : Int, (wrap64 (x1_1 - 2)) = j_ := ⟨_, rfl⟩
    replace H : (if 0 ≤ (ji6) then (if (ji6) < (l0_1.length : Int) then (if 0 ≤ ((rd_T56 l0_1 (ji6)).f0) then (if ((rd_T56 l0_1 (ji6)).f0) < (l2.length : Int) then (if (rd l2 ((rd_T56 l0_1 (ji6)).f0)) = 1 then (impl_Diagram_value.l0 k1 ((rd_T56 l0_1 (ji6)).f2) l2 a0_0 l0_1) else (impl_Diagram_value.l0 k1 ((rd_T56 l0_1 (ji6)).f1) l2 a0_0 l0_1)) else (none)) else (none)) else (none)) else (none)) = some r := by first | (rw [hji6] at H; exact H) | (simp only [hji6] at H ⊢; exact H)
    have hji6w : (IntKind.i64.wrap (x1_1 - 2)) = ji6 := (i64_w _).trans hji6
    by_cases c7 : 0 ≤ (ji6)
    ·rw [if_pos c7] at H
     have c7b0 : decide (0 ≤ (ji6)) = true := decide_eq_true c7
     clear c7
     by_cases c8 : (ji6) < (l0_1.length : Int)
     ·rw [if_pos c8] at H
      have c8b0 : decide ((ji6) < (l0_1.length : Int)) = true := decide_eq_true c8
      clear c8
      by_cases c9 : 0 ≤ ((rd_T56 l0_1 (ji6)).f0)
      ·rw [if_pos c9] at H
       have c9b0 : decide (0 ≤ ((rd_T56 l0_1 (ji6)).f0)) = true := decide_eq_true c9
       clear c9
       by_cases c10 : ((rd_T56 l0_1 (ji6)).f0) < (l2.length : Int)
       ·rw [if_pos c10] at H
        have c10b0 : decide (((rd_T56 l0_1 (ji6)).f0) < (l2.length : Int)) = true := decide_eq_true c10
        clear c10
        by_cases c11 : (rd l2 ((rd_T56 l0_1 (ji6)).f0)) = 1
        ·rw [if_pos c11] at H
         have c11b0 : ((rd l2 ((rd_T56 l0_1 (ji6)).f0)) == 1) = true := beq_iff_eq.mpr c11
         have c11b1 : ((rd l2 ((rd_T56 l0_1 (ji6)).f0)) != 1) = false := bne_eq_false_iff_eq.mpr c11
         clear c11
         have H' := Aside0.mk H
         clear H
         have hcz12_0 : wr.cell? ⟨gb258, 0, none⟩ = some (.int .i64 a0_0) := (blk_cell BK258.out 0).trans rfl
         have hcz12_1 : wr.cell? ⟨gb258, 1, none⟩ = some (.slice A0_1 l0_1.length c0_1) := (blk_cell BK258.out 1).trans rfl
         have hfz12_0 := blk_frozen BK258.out 0
         have hfz12_1 := blk_frozen BK258.out 1
         have p259 : 0 ≤ ((ji6) : Int) := oda
         have q259 : (ji6) < (l0_1.length : Int) := oda
         obtain ⟨ad259, e259, hx259_0, hx259_1, hx259_2⟩ := at_T56 HR0_1.out (ji6) p259 q259
         cases e259
         try replace hx259_0 := bct HB.out hx259_0
         try replace hx259_1 := bct HB.out hx259_1
         try replace hx259_2 := bct HB.out hx259_2
         replace p259 := eq_true p259
         replace q259 := eq_true q259
         go_wp2_with (first | ((with_reducible refine gate_dst (N := 7) rfl ?_); refine box_event ?hg (N := 7) ?hd (cs := #[.int .i64 0, .int .i64 0, .int .i64 0]) (t := 56) ?hr ?_; (case hd => rfl); (case hg => rfl); (case hr => first | (go_simp; done) | (go_simp; rfl)); intro gb260 hg w13 hbox hb; have n0_ := Aside0.mk (blk_below (g := gb258) (o := .cells #[.int .i64 a0_0, .slice (some ad259) l0_1.length c0_1] 48 (0, 0)) (bvK BK258.out) hb); have n1_ := Aside0.mk (below_step hbC hb); have n2_ := Aside0.mk (hbox); have n3_ := Aside0.mk ((gwb hg (below_size hbC) : w.heap.size ≤ gb260)); have n4_ := n3_; have n5_ := Aside0.mk ((by rw [hg]; exact Nat.ne_of_lt (blk_lt (g := gb258) (o := .cells #[.int .i64 a0_0, .slice (some ad259) l0_1.length c0_1] 48 (0, 0)) (bvK BK258.out)) : gb258 ≠ gb260)); have n6_ := Aside0.mk ((by rw [hg]; exact Nat.ne_of_gt (blk_lt (g := gb258) (o := .cells #[.int .i64 a0_0, .slice (some ad259) l0_1.length c0_1] 48 (0, 0)) (bvK BK258.out)) : gb260 ≠ gb258)); clear BK258; clear HB; have BK258 := n0_; have HB := n1_; have BK260 := n2_; have GW260 := n3_; have GE260 := n4_; have NB258_260 := n5_; have NB260_258 := n6_; clear n0_ n1_ n2_ n3_ n4_ n5_ n6_; clear hb hbox hg; have hnb14 := NB260_258.out; have hnc14 := NB258_260.out; have hcz15_0 : w13.cell? ⟨gb260, 0, none⟩ = some (.int .i64 0) := (blk_cell BK260.out 0).trans rfl; have hcz15_1 : w13.cell? ⟨gb260, 1, none⟩ = some (.int .i64 0) := (blk_cell BK260.out 1).trans rfl; have hcz15_2 : w13.cell? ⟨gb260, 2, none⟩ = some (.int .i64 0) := (blk_cell BK260.out 2).trans rfl; have hfz15_0 := blk_frozen BK260.out 0; have hfz15_1 := blk_frozen BK260.out 1; have hfz15_2 := blk_frozen BK260.out 2; have p261 : 0 ≤ (((rd_T56 l0_1 (ji6)).f0) : Int) := oda; have q261 : ((rd_T56 l0_1 (ji6)).f0) < (l2.length : Int) := oda; obtain ⟨ad261, e261, hx261_0⟩ := Kd.at_int HR2.out ((rd_T56 l0_1 (ji6)).f0) p261 q261; cases e261; have hn261_0 : ad261.block ≠ gb260 := Nat.ne_of_lt (Nat.lt_of_lt_of_le (blt hx261_0) GW260.out); have hn261_1 : ad261.block ≠ gb260 := Nat.ne_of_lt (Nat.lt_of_lt_of_le (blt hx261_0) GW260.out); have hn261_2 : ad261.block ≠ gb260 := Nat.ne_of_lt (Nat.lt_of_lt_of_le (blt hx261_0) GW260.out); replace hx261_0 := bct HB.out hx261_0; replace hx261_0 := (cell_far (p := ⟨gb260, 0, none⟩) (fnb hn261_0) (.int .i64 ((rd_T56 l0_1 (ji6)).f0))).trans hx261_0; replace hx261_0 := (cell_far (p := ⟨gb260, 1, none⟩) (fnb hn261_1) (.int .i64 ((rd_T56 l0_1 (ji6)).f1))).trans hx261_0; replace hx261_0 := (cell_far (p := ⟨gb260, 2, none⟩) (fnb hn261_2) (.int .i64 ((rd_T56 l0_1 (ji6)).f2))).trans hx261_0; clear hn261_0; clear hn261_1; clear hn261_2; replace p261 := eq_true p261; replace q261 := eq_true q261))
         go_roundg k1
         case measure => have := HK1.out; omega
         case rel => exact ⟨((rd_T56 l0_1 (ji6)).f2), (by first | rfl | (simp; done) | (simp only [← hji6] <;> (first | rfl | simp)) | (simp [*]; done)), H', ⟨by have := HK1.out; omega⟩, ⟨by (with_reducible repeat first | apply bkN | apply bkD | apply bkA); refine blk_far ?_ NB258_260.out _; (with_reducible repeat first | apply bkN | apply bkD | apply bkA); refine blk_far ?_ NB258_260.out _; (with_reducible repeat first | apply bkN | apply bkD | apply bkA); refine blk_far ?_ NB258_260.out _; (with_reducible repeat first | apply bkN | apply bkD | apply bkA); exact BK258.out⟩, ⟨hbC⟩⟩
        ·rw [if_neg c11] at H
         have c11b0 : ((rd l2 ((rd_T56 l0_1 (ji6)).f0)) == 1) = false := beq_eq_false_iff_ne.mpr c11
         have c11b1 : ((rd l2 ((rd_T56 l0_1 (ji6)).f0)) != 1) = true := bne_iff_ne.mpr c11
         have H' := Aside0.mk H
         clear H
         have hcz16_0 : wr.cell? ⟨gb258, 0, none⟩ = some (.int .i64 a0_0) := (blk_cell BK258.out 0).trans rfl
         have hcz16_1 : wr.cell? ⟨gb258, 1, none⟩ = some (.slice A0_1 l0_1.length c0_1) := (blk_cell BK258.out 1).trans rfl
         have hfz16_0 := blk_frozen BK258.out 0
         have hfz16_1 := blk_frozen BK258.out 1
         have p259 : 0 ≤ ((ji6) : Int) := oda
         have q259 : (ji6) < (l0_1.length : Int) := oda
         obtain ⟨ad259, e259, hx259_0, hx259_1, hx259_2⟩ := at_T56 HR0_1.out (ji6) p259 q259
         cases e259
         try replace hx259_0 := bct HB.out hx259_0
         try replace hx259_1 := bct HB.out hx259_1
         try replace hx259_2 := bct HB.out hx259_2
         replace p259 := eq_true p259
         replace q259 := eq_true q259
         go_wp2_with (first | ((with_reducible refine gate_dst (N := 7) rfl ?_); refine box_event ?hg (N := 7) ?hd (cs := #[.int .i64 0, .int .i64 0, .int .i64 0]) (t := 56) ?hr ?_; (case hd => rfl); (case hg => rfl); (case hr => first | (go_simp; done) | (go_simp; rfl)); intro gb260 hg w17 hbox hb; have n0_ := Aside0.mk (blk_below (g := gb258) (o := .cells #[.int .i64 a0_0, .slice (some ad259) l0_1.length c0_1] 48 (0, 0)) (bvK BK258.out) hb); have n1_ := Aside0.mk (below_step hbC hb); have n2_ := Aside0.mk (hbox); have n3_ := Aside0.mk ((gwb hg (below_size hbC) : w.heap.size ≤ gb260)); have n4_ := n3_; have n5_ := Aside0.mk ((by rw [hg]; exact Nat.ne_of_lt (blk_lt (g := gb258) (o := .cells #[.int .i64 a0_0, .slice (some ad259) l0_1.length c0_1] 48 (0, 0)) (bvK BK258.out)) : gb258 ≠ gb260)); have n6_ := Aside0.mk ((by rw [hg]; exact Nat.ne_of_gt (blk_lt (g := gb258) (o := .cells #[.int .i64 a0_0, .slice (some ad259) l0_1.length c0_1] 48 (0, 0)) (bvK BK258.out)) : gb260 ≠ gb258)); clear BK258; clear HB; have BK258 := n0_; have HB := n1_; have BK260 := n2_; have GW260 := n3_; have GE260 := n4_; have NB258_260 := n5_; have NB260_258 := n6_; clear n0_ n1_ n2_ n3_ n4_ n5_ n6_; clear hb hbox hg; have hnb18 := NB260_258.out; have hnc18 := NB258_260.out; have hcz19_0 : w17.cell? ⟨gb260, 0, none⟩ = some (.int .i64 0) := (blk_cell BK260.out 0).trans rfl; have hcz19_1 : w17.cell? ⟨gb260, 1, none⟩ = some (.int .i64 0) := (blk_cell BK260.out 1).trans rfl; have hcz19_2 : w17.cell? ⟨gb260, 2, none⟩ = some (.int .i64 0) := (blk_cell BK260.out 2).trans rfl; have hfz19_0 := blk_frozen BK260.out 0; have hfz19_1 := blk_frozen BK260.out 1; have hfz19_2 := blk_frozen BK260.out 2; have p261 : 0 ≤ (((rd_T56 l0_1 (ji6)).f0) : Int) := oda; have q261 : ((rd_T56 l0_1 (ji6)).f0) < (l2.length : Int) := oda; obtain ⟨ad261, e261, hx261_0⟩ := Kd.at_int HR2.out ((rd_T56 l0_1 (ji6)).f0) p261 q261; cases e261; have hn261_0 : ad261.block ≠ gb260 := Nat.ne_of_lt (Nat.lt_of_lt_of_le (blt hx261_0) GW260.out); have hn261_1 : ad261.block ≠ gb260 := Nat.ne_of_lt (Nat.lt_of_lt_of_le (blt hx261_0) GW260.out); have hn261_2 : ad261.block ≠ gb260 := Nat.ne_of_lt (Nat.lt_of_lt_of_le (blt hx261_0) GW260.out); replace hx261_0 := bct HB.out hx261_0; replace hx261_0 := (cell_far (p := ⟨gb260, 0, none⟩) (fnb hn261_0) (.int .i64 ((rd_T56 l0_1 (ji6)).f0))).trans hx261_0; replace hx261_0 := (cell_far (p := ⟨gb260, 1, none⟩) (fnb hn261_1) (.int .i64 ((rd_T56 l0_1 (ji6)).f1))).trans hx261_0; replace hx261_0 := (cell_far (p := ⟨gb260, 2, none⟩) (fnb hn261_2) (.int .i64 ((rd_T56 l0_1 (ji6)).f2))).trans hx261_0; clear hn261_0; clear hn261_1; clear hn261_2; replace p261 := eq_true p261; replace q261 := eq_true q261))
         go_roundg k1
         case measure => have := HK1.out; omega
         case rel => exact ⟨((rd_T56 l0_1 (ji6)).f1), (by first | rfl | (simp; done) | (simp only [← hji6] <;> (first | rfl | simp)) | (simp [*]; done)), H', ⟨by have := HK1.out; omega⟩, ⟨by (with_reducible repeat first | apply bkN | apply bkD | apply bkA); refine blk_far ?_ NB258_260.out _; (with_reducible repeat first | apply bkN | apply bkD | apply bkA); refine blk_far ?_ NB258_260.out _; (with_reducible repeat first | apply bkN | apply bkD | apply bkA); refine blk_far ?_ NB258_260.out _; (with_reducible repeat first | apply bkN | apply bkD | apply bkA); exact BK258.out⟩, ⟨hbC⟩⟩
       ·rw [if_neg c10] at H
        exact absurd H (by simp)
      ·rw [if_neg c9] at H
       exact absurd H (by simp)
     ·rw [if_neg c8] at H
      exact absurd H (by simp)
    ·rw [if_neg c7] at H
     exact absurd H (by simp)
   ·rw [if_neg c5] at H
    have c5b0 : decide (2 ≤ x1_1) = false := decide_eq_false c5
    clear c5
    obtain rfl := Option.some.inj H
    go_wp2
    go_ret
    exact ⟨ers, hbC⟩

/-! ### impl_reordered: function 86 -/
def impl_reordered.l0 : Nat → List Int → List Int → List Int → Int → Option (List Int)
 | 0, _, _, _, _ => none
 | k + 1, x, o, b, i => if i < (o.length : Int) then (if 0 ≤ i then (if i < (b.length : Int) then (if 0 ≤ rd o i then (if rd o i < (x.length : Int) then impl_reordered.l0 k (x.set (rd o i).toNat (rd b i)) o b (wrap64 (i + 1)) else none) else none) else none) else none) else some x
theorem impl_reordered.l0_mono : ∀ k x o b i, LeO (impl_reordered.l0 k x o b i) (impl_reordered.l0 (k + 1) x o b i)
 | 0, _, _, _, _ => fun r h => by simp [impl_reordered.l0] at h
 | k + 1, x, o, b, i => by
  rw [impl_reordered.l0, impl_reordered.l0]
  exact LeO.ite (LeO.ite (LeO.ite (LeO.ite (LeO.ite (impl_reordered.l0_mono k _ _ _ _) (LeO.refl _)) (LeO.refl _)) (LeO.refl _)) (LeO.refl _)) (LeO.refl _)
def impl_reordered.is (k : Nat) (dv : Int) (df : List S56) (n : Int) (o : List Int) (bits : List Int) : Option Bool := if 0 ≤ dv then (if dv.toNat ≤ 35184372088832 then (impl_reordered.l0 k (List.replicate dv.toNat 0) o bits 0).bind fun y => (impl_Diagram_value.f k dv df n y).bind fun r => some (r == 1) else none) else none
theorem impl_reordered.is_le (k : Nat) (dv : Int) (df : List S56) (n : Int) (o : List Int) (bits : List Int) : LeO (impl_reordered.is k dv df n o bits) (impl_reordered.is (k + 1) dv df n o bits) := LeO.ite (LeO.ite (LeO.bind (impl_reordered.l0_mono k _ _ _ _) (fun _ => LeO.bind (impl_Diagram_value.mono _ _ _ _ k) (fun _ => LeO.refl _))) (LeO.refl _)) (LeO.refl _)
def impl_reordered.f (k : Nat) (a0_0 : Int) (l0_1 : List S56) (a1 : Int) (l2 : List Int) : Option (Int × List S56 × Int) :=
 (impl_forkingOf.f a0_0 []).bind fun s => (impl_forking_made.f k (impl_reordered.is k a0_0 l0_1 a1 l2) s []).bind fun p => impl_forking_done.f p.1 p.2
theorem impl_reordered.mono : ∀ a0_0 l0_1 a1 l2 k, LeO (impl_reordered.f k a0_0 l0_1 a1 l2) (impl_reordered.f (k + 1) a0_0 l0_1 a1 l2) := fun a0_0 l0_1 a1 l2 k => LeO.bind (LeO.refl _) (fun _ => LeO.bind (impl_forking_made.le (impl_reordered.is_le k _ _ _ _) k _ _) (fun _ => LeO.refl _))
set_option maxHeartbeats 8000000 in
set_option maxRecDepth 100000 in
theorem impl_reordered.is_calls (k : Nat) (dv : Int) (A0 : Option Addr) (c0 : Nat) (df : List S56) (n : Int) (Ao : Option Addr) (co : Nat) (o : List Int) (gd gO gn : Nat) (bs : List Int) (b : Bool) (A : Option Addr) (c : Nat) (w : World) (hr : Kd.C k56 w A0 df.length df) (hc : df.length ≤ c0) (ho : Kd.C (Kd.int .i64) w Ao o.length o) (hoc : o.length ≤ co) (hgd : w.heap[gd]? = some (.cells #[.int .i64 dv, .slice A0 df.length c0] 48 (0, 0))) (hgo : w.heap[gO]? = some (.cells #[.slice Ao o.length co] 38 (0, 0))) (hgn : w.heap[gn]? = some (.cells #[.int .i64 n] 3 (0, 0)))
  (hb : Kd.C (Kd.int .i64) w A bs.length bs) (hbc : bs.length ≤ c) (h : impl_reordered.is k dv df n o bs = some b) :
  Calls Try.prog 120 (#[.slice A bs.length c] ++ #[.pointer (some ⟨gd, 0, none⟩), .pointer (some ⟨gO, 0, none⟩), .pointer (some ⟨gn, 0, none⟩)]) w fun e w' => e = .returned (.bool b) ∧ Below w.heap.size w w' := by
 show Calls Try.prog 120 #[.slice A bs.length c, .pointer (some ⟨gd, 0, none⟩), .pointer (some ⟨gO, 0, none⟩), .pointer (some ⟨gn, 0, none⟩)] w _
 have hu25 := Try.underlying48
 unfold impl_reordered.is at h
 by_cases c2 : 0 ≤ dv
 rotate_left
 ·rw [if_neg c2] at h; cases h
 rw [if_pos c2] at h
 by_cases c3 : dv.toNat ≤ 35184372088832
 rotate_left
 ·rw [if_neg c3] at h; cases h
 rw [if_pos c3] at h
 have c2b0 := eq_true c2
 have c2b1 : decide (0 ≤ dv) = true := decide_eq_true c2
 have c3b0 := eq_true c3
 have c3b1 : decide (dv.toNat ≤ 35184372088832) = true := decide_eq_true c3
 clear c2 c3
 obtain ⟨y, hy, h2⟩ := Option.bind_eq_some_iff.mp h
 obtain ⟨r, hrr, h3⟩ := Option.bind_eq_some_iff.mp h2
 obtain rfl := Option.some.inj h3
 obtain ⟨y0, hy0⟩ : ∃ y_ : List Int, y_ = List.replicate dv.toNat 0 := ⟨_, rfl⟩
 rw [← hy0] at hy
 have Y0 := Aside0.mk hy0
 have HR := Aside0.mk hr
 have HC := Aside0.mk hc
 have HO := Aside0.mk ho
 have HOC := Aside0.mk hoc
 have GD := Aside0.mk hgd
 have GO := Aside0.mk hgo
 have GN := Aside0.mk hgn
 have HBS := Aside0.mk hb
 have HBC := Aside0.mk hbc
 have H' := Aside0.mk hy
 have RR := Aside0.mk hrr
 have d0 : w.cell? ⟨gd, 0, none⟩ = some (.int .i64 dv) := (blk_cell hgd 0).trans rfl
 have HB := Aside0.mk (Below.refl w.heap.size w)
 clear hr hc ho hoc hgd hgo hgn hb hbc h hy h2 hrr h3 hy0
 go_enter Try.func120, Try.ntmps120
 go_wp2_with (first | ((with_reducible refine gate_dst (N := 11) rfl ?_); refine Kd.R_make (Kd.int .i64) _ 3 rfl (N := 11) rfl 38 _ _ rfl dv rfl rfl Try.underlying38 (.int .i64 0) 8 info3 rfl (by decide) (by omega) 0 (ok := fun _ => True) (okp := fun _ => True) rfl (fun _ hk => hk) trivial (oda) (Nat.le_trans (Nat.mul_le_mul_right _ (oda : dv.toNat ≤ 35184372088832)) (by omega)) (Below.refl _ _) (Nat.le_refl _) ?_; intro v246 w4 ho5 hb hg_ hnew_; clear hg_ hnew_; (first | rw [← Y0.out] at ho5 | (simp only [Int.reduceToNat] at ho5; rw [← Y0.out] at ho5)); have HX := Aside0.mk ho5; have HB4 := Aside0.mk hb; clear hb ho5 HB; have HB := HB4; clear HB4; obtain ⟨Ao6, co6, eo6⟩ := Kd.R_slice HX.out; subst eo6; have o4 : w4.cell? ⟨gO, 0, none⟩ = some (.slice Ao o.length co) := (blk_cell (blk_below GO.out HB.out) 0).trans rfl))
 go_loopg [14] k (fun kq v14 w' => ∃ (x : List Int) (i : Int), v14 = .int .i64 i ∧ Aside0 (impl_reordered.l0 kq x o bs i = some y) ∧ Aside0 (kq ≤ k) ∧ Aside0 (Kd.R (Kd.int .i64) 3 w' w.heap.size (fun _ => True) (.slice Ao6 y0.length co6) x) ∧ Aside0 (Below w.heap.size w w'))
 case atStart => exact ⟨y0, 0, rsd, H', ⟨Nat.le_refl _⟩, ⟨HX.out⟩, ⟨HB.out⟩⟩
 case round =>
  clear H' HX HB
  try clear d0
  try clear o4
  try clear c2b0
  try clear c2b1
  try clear c3b0
  try clear c3b1
  obtain ⟨x, i, rfl, HA, HK1, HX, HB⟩ := hrel
  have hl := (Kd.R_reads' HX.out).1
  rw [hl] at HX
  (try simp only [hl])
  cases gk with
  | zero => exact absurd HA.out (by simp [impl_reordered.l0])
  | succ k1 =>
   have H := HA.out
   clear HA
   simp only [impl_reordered.l0] at H
   by_cases c7 : i < (o.length : Int)
   ·rw [if_pos c7] at H
    have c7b0 : decide (i < (o.length : Int)) = true := decide_eq_true c7
    clear c7
    by_cases c8 : 0 ≤ i
    rotate_left
    ·rw [if_neg c8] at H; cases H
    rw [if_pos c8] at H
    have c8b0 : decide (0 ≤ i) = true := decide_eq_true c8
    clear c8
    by_cases c9 : i < (bs.length : Int)
    rotate_left
    ·rw [if_neg c9] at H; cases H
    rw [if_pos c9] at H
    have c9b0 : decide (i < (bs.length : Int)) = true := decide_eq_true c9
    clear c9
    by_cases c10 : 0 ≤ rd o i
    rotate_left
    ·rw [if_neg c10] at H; cases H
    rw [if_pos c10] at H
    have c10b0 : decide (0 ≤ rd o i) = true := decide_eq_true c10
    clear c10
    by_cases c11 : rd o i < (x.length : Int)
    rotate_left
    ·rw [if_neg c11] at H; cases H
    rw [if_pos c11] at H
    have c11b0 : decide (rd o i < (x.length : Int)) = true := decide_eq_true c11
    clear c11
    obtain ⟨y2, hy2⟩ : ∃ y_ : List Int, y_ = x.set (rd o i).toNat (rd bs i) := ⟨_, rfl⟩
    rw [← hy2] at H
    have Y2 := Aside0.mk hy2
    clear hy2
    have H' := Aside0.mk H
    clear H
    have p174 : 0 ≤ i := oda
    have q174 : i < (o.length : Int) := oda
    obtain ⟨ad174, e174, hx174⟩ := Kd.at_int HO.out i p174 q174
    cases e174
    replace hx174 := bct HB.out hx174
    replace p174 := eq_true p174
    replace q174 := eq_true q174
    have p175 : 0 ≤ i := oda
    have q175 : i < (bs.length : Int) := oda
    obtain ⟨ad175, e175, hx175⟩ := Kd.at_int HBS.out i p175 q175
    cases e175
    replace hx175 := bct HB.out hx175
    replace p175 := eq_true p175
    replace q175 := eq_true q175
    have p25 : 0 ≤ rd o i := oda
    have q25 : rd o i < ((x.length : Int) : Int) := oda
    obtain ⟨go25, co25, eo25, gb25, gl25, cl25, HG25⟩ := Kd.R_form HX.out (by omega)
    (first | cases eo25 | (injection eo25 with ea_ en_ ec_; (first | subst ea_ | (injection ea_ with ea_; subst ea_)); subst ec_; clear en_))
    have GB25 := Aside0.mk gb25
    have GG25 := Aside0.mk HG25
    clear gb25 gl25 HG25
    obtain ⟨hx25_0, hf25_0⟩ := Kd.R_celln 0 HX.out (rd o i) p25 q25
    replace p25 := eq_true p25
    replace q25 := eq_true q25
    have HP11 := Kd.R_putg HX.out (rd o i) (rd bs i)
    go_wp2_with (first | ((with_reducible refine gate_store (t := 3) (p := 25) rfl ?_); refine store_event (t := 3) (p := 25) (v := ?vo_w12) (w1 := (wr.setCell ⟨go25, (rd o i).toNat, none⟩ (.int .i64 (rd bs i)))) ?hg ?ho ?hn ?hr ?_; (case ho => rfl); (case hg => rfl); (case hn => rfl); (case hr => first | (go_simp; done) | (go_simp; rfl)); intro w12 hw; have hp_ : Kd.R (Kd.int .i64) 3 w12 w.heap.size (fun _ => True) (.slice (some ⟨go25, 0, none⟩) x.length co6) y2 := (by rw [hw, Y2.out]; exact HP11.1); clear HP11; have n0_ := Aside0.mk (hp_); have n1_ := Aside0.mk ((by rw [hw]; exact below_set (HB.out) GB25.out : Below w.heap.size w w12)); clear HX; clear HB; have HX := n0_; have HB := n1_; clear n0_ n1_; clear hw hp_))
    (try simp only [← hl])
    go_roundg k1
    case measure => have := HK1.out; omega
    case rel => exact ⟨y2, (wrap64 (i + 1)), rsd, H', ⟨by have := HK1.out; omega⟩, ⟨by (try simp only [hl]); exact HX.out⟩, ⟨HB.out⟩⟩
   ·rw [if_neg c7] at H
    have c7b0 : decide (i < (o.length : Int)) = false := decide_eq_false c7
    clear c7
    obtain rfl := Option.some.inj H
    have GD5 := Aside0.mk (blk_below GD.out HB.out)
    have d5 : wr.cell? ⟨gd, 0, none⟩ = some (.int .i64 dv) := (blk_cell GD5.out 0).trans rfl
    have d6 : wr.cell? ⟨gd, 1, none⟩ = some (.slice A0 df.length c0) := (blk_cell GD5.out 1).trans rfl
    have n5 : wr.cell? ⟨gn, 0, none⟩ = some (.int .i64 n) := (blk_cell (blk_below GN.out HB.out) 0).trans rfl
    obtain ⟨q, hq⟩ : ∃ q, (r == 1) = q := ⟨_, rfl⟩
    go_wp2_with (first | (go_at_call 121; (with_reducible refine (impl_Diagram_value.calls k dv A0 c0 df n _ _ x r _ (Kd.C_below HR.out HB.out) HC.out (Kd.R_reads' HX.out).2.2 (Kd.R_reads' HX.out).2.1 RR.out).mono ?_); rintro e w9 ⟨rfl, hb⟩; have HB9 := Aside0.mk (below_step HB.out hb); clear hb))
    go_ret
    exact ⟨by first | rfl | (rw [hq]; rfl) | (simp [← hq]; done), HB9.out⟩
set_option maxHeartbeats 8000000 in
set_option maxRecDepth 100000 in
theorem impl_reordered.calls (k : Nat) (a0_0 : Int) (A0_1 : Option Addr) (c0_1 : Nat) (l0_1 : List S56) (a1 : Int) (A2 : Option Addr) (c2 : Nat) (l2 : List Int) (r1 : Int) (r2 : List S56) (r3 : Int) (w : World) (hr : Kd.C k56 w A0_1 l0_1.length l0_1) (hc : l0_1.length ≤ c0_1) (hr2 : Kd.C (Kd.int .i64) w A2 l2.length l2) (hc2 : l2.length ≤ c2) (h : impl_reordered.f k a0_0 l0_1 a1 l2 = some (r1, r2, r3)) :
  Calls Try.prog 86 #[.agg #[.int .i64 a0_0, .slice A0_1 l0_1.length c0_1], .int .i64 a1, .slice A2 l2.length c2] w fun e w' => ∃ v1_ : Value, e = .returned (.tuple #[.agg #[.int .i64 r1, v1_], .int .i64 r3]) ∧ Kd.R k56 56 w' w.heap.size (fun _ => True) v1_ r2 ∧ Below w.heap.size w w' := by
 have eg : ∀ args w, (callFunc 120 args).run Try.prog w = .ok (.enter 120 args) w := enters_of Try.func120 (by kernel_rfl) rfl
 have hu25 := Try.underlying48
 have HR := Aside0.mk hr
 have HC := Aside0.mk hc
 have HO := Aside0.mk hr2
 have HOC := Aside0.mk hc2
 unfold impl_reordered.f at h
 clear hr hc hr2 hc2
 obtain ⟨s, hs, h_⟩ := Option.bind_eq_some_iff.mp h
 obtain ⟨⟨s2, r⟩, hp, hd⟩ := Option.bind_eq_some_iff.mp h_
 have TS := Aside0.mk hs
 have TP := Aside0.mk hp
 have TD := Aside0.mk hd
 clear h h_ hs hp hd
 go_enter Try.func86, Try.ntmps86
 go_upto_region 1 with (first | ((with_reducible refine gate_dst (N := 3) rfl ?_); refine box_event ?hg (N := 3) ?hd (cs := #[.int .i64 a0_0, .slice A0_1 l0_1.length c0_1]) (t := 48) ?hr ?_; (case hd => rfl); (case hg => rfl); (case hr => first | (go_simp; done) | (go_simp; rfl)); intro gd hg_ w1 hbox hb; have HB1 := Aside0.mk (hb); have BD1 := Aside0.mk hbox; clear hg_ hbox hb) | ((with_reducible refine gate_dst (N := 4) rfl ?_); refine box_event ?hg (N := 4) ?hd (cs := #[.int .i64 a1]) (t := 3) ?hr ?_; (case hd => rfl); (case hg => rfl); (case hr => first | (go_simp; done) | (go_simp; rfl)); intro gn hg_ w2 hbox hb; have HB2 := Aside0.mk (below_step HB1.out hb); have BN2 := Aside0.mk hbox; have BD2 := Aside0.mk (blk_below BD1.out hb); clear hg_ hbox hb) | ((with_reducible refine gate_dst (N := 5) rfl ?_); refine box_event ?hg (N := 5) ?hd (cs := #[.slice A2 l2.length c2]) (t := 38) ?hr ?_; (case hd => rfl); (case hg => rfl); (case hr => first | (go_simp; done) | (go_simp; rfl)); intro gO hg_ w3 hbox hb; have HB3 := Aside0.mk (below_step HB2.out hb); have BO3 := Aside0.mk hbox; have BN3 := Aside0.mk (blk_below BN2.out hb); have BD3 := Aside0.mk (blk_below BD2.out hb); clear hg_ hbox hb) | ((with_reducible refine gate_dst (N := 6) rfl ?_); refine box_event ?hg (N := 6) ?hd (cs := #[.int .i64 0, .slice none 0 0]) (t := 48) ?hr ?_; (case hd => rfl); (case hg => rfl); (case hr => first | (go_simp; done) | (go_simp; rfl)); intro gr hg_ w5 hbox hb; have HB5 := Aside0.mk (below_step HB3.out hb); have GR := Aside0.mk (show w.heap.size ≤ gr by rw [hg_]; exact HB3.out.size); have BR5 := Aside0.mk hbox; have BO5 := Aside0.mk (blk_below BO3.out hb); have BN5 := Aside0.mk (blk_below BN3.out hb); have BD5 := Aside0.mk (blk_below BD3.out hb); have d50 : w5.cell? ⟨gd, 0, none⟩ = some (.int .i64 a0_0) := (blk_cell BD5.out 0).trans rfl; clear hg_ hbox hb))
 have HV : Aside0 (∀ wF, Below w5.heap.size w5 wF → wF.heap[gd]? = some (.cells #[.int .i64 a0_0, .slice A0_1 l0_1.length c0_1] 48 (0, 0)) → wF.heap[gO]? = some (.cells #[.slice A2 l2.length c2] 38 (0, 0)) → wF.heap[gn]? = some (.cells #[.int .i64 a1] 3 (0, 0)) → ∀ (bs : List Int) (b : Bool), impl_reordered.is k a0_0 l0_1 a1 l2 bs = some b → ∀ W, Kept wF W (fun k_ => w5.heap.size ≤ k_) → ∀ A c, Kd.C (Kd.int .i64) W A bs.length bs → bs.length ≤ c → Calls Try.prog 120 (#[.slice A bs.length c] ++ #[.pointer (some ⟨gd, 0, none⟩), .pointer (some ⟨gO, 0, none⟩), .pointer (some ⟨gn, 0, none⟩)]) W fun e w' => e = .returned (.bool b) ∧ Below W.heap.size W w') := ⟨fun wF hbF hgdF hgoF hgnF bs b hbs W hk A c hC hcb => by
  have hld := blk_lt BD5.out
  have hlo := blk_lt BO5.out
  have hln := blk_lt BN5.out
  exact impl_reordered.is_calls k a0_0 A0_1 c0_1 l0_1 a1 A2 c2 l2 gd gO gn bs b A c W (Kd.C_kept_came (Kd.heap_iso _ (Kd.heap_pair (Kd.heap_int .i64) (Kd.heap_pair (Kd.heap_int .i64) (Kd.heap_int .i64)))) (Kd.C_below HR.out HB5.out) hbF (fun k_ h_ => h_) W hk) HC.out (Kd.C_kept_came (Kd.heap_int .i64) (Kd.C_below HO.out HB5.out) hbF (fun k_ h_ => h_) W hk) HOC.out (blk_kept hgdF hk (fun h_ => by omega)) (blk_kept hgoF hk (fun h_ => by omega)) (blk_kept hgnF hk (fun h_ => by omega)) hC hcb hbs⟩
 go_wp2_with (first | (go_at_call 117; have FC_ : Calls Try.prog 117 #[.agg #[.int .i64 a0_0, .slice none 0 0]] w5 (fun e w' => ∃ g, e = .returned (.pointer (some ⟨g, 0, none⟩)) ∧ IsF w' w5.heap.size (fun k => w5.heap.size ≤ k) g s ∧ Below w5.heap.size w5 w') := impl_forkingOf.calls a0_0 none 0 [] s w5 (Kd.C_nil _ _) (Nat.le_refl _) TS.out; (with_reducible refine FC_.mono ?_); rintro e wF ⟨g, rfl, hi, hb⟩; clear FC_; have IF := Aside0.mk hi; have HBF := Aside0.mk hb; have BDF := Aside0.mk (blk_below BD5.out hb); have BOF := Aside0.mk (blk_below BO5.out hb); have BNF := Aside0.mk (blk_below BN5.out hb); clear hi hb) | (go_at_call 119; have MC_ : Calls Try.prog 119 #[.pointer (some ⟨g, 0, none⟩), .slice none 0 0, .func (.func 120) #[] #[.pointer (some ⟨gd, 0, none⟩), .pointer (some ⟨gO, 0, none⟩), .pointer (some ⟨gn, 0, none⟩)]] wF (fun e w' => e = .returned (.int .i64 r) ∧ IsF w' w5.heap.size (fun k_ => w5.heap.size ≤ k_) g s2 ∧ Below w5.heap.size w5 w' ∧ Kept wF w' (fun k_ => w5.heap.size ≤ k_)) := impl_forking_made.calls k (impl_reordered.is k a0_0 l0_1 a1 l2) 120 #[.pointer (some ⟨gd, 0, none⟩), .pointer (some ⟨gO, 0, none⟩), .pointer (some ⟨gn, 0, none⟩)] eg s s2 [] r none 0 _ g w5 _ HBF.out IF.out (fun k_ hk => Nat.le_trans HBF.out.size hk) (fun W_ _ => Kd.C_nil _ _) (Nat.le_refl _) (HV.out wF HBF.out BDF.out BOF.out BNF.out) TP.out; (with_reducible refine MC_.mono ?_); rintro e wG ⟨rfl, hi_, hb_, hk_⟩; have IG := Aside0.mk hi_; have HBG := Aside0.mk hb_; clear hi_ hb_ hk_ MC_) | (go_at_call 118; (with_reducible refine (impl_forking_done.calls s2 r r1 r2 r3 _ _ g _ IG.out TD.out).mono ?_); rintro e wD ⟨v1, rfl, hR, hb⟩; obtain ⟨A5, c5, rfl⟩ := Kd.R_slice hR; have HBD := Aside0.mk (below_then HBG.out HBG.out.size hb); have BRD := Aside0.mk (blk_below BR5.out HBD.out); have RD := Aside0.mk (Kd.R_lower hR (Nat.le_trans HB5.out.size HBG.out.size)); have r90 : wD.cell? ⟨gr, 0, none⟩ = some (.int .i64 0) := (blk_cell BRD.out 0).trans rfl; have r91 : wD.cell? ⟨gr, 1, none⟩ = some (.slice none 0 0) := (blk_cell BRD.out 1).trans rfl; have q90 := blk_frozen BRD.out 0; have q91 := blk_frozen BRD.out 1; clear hR hb))
 refine bodyPost_ret (results_ct rfl _ _ gr 48 #[.int .i64 r1, .slice A5 r2.length c5] (0, 0) _ rfl (blk_put (blk_put BRD.out 0 _ rfl) 1 _ rfl) Try.underlying48 rfl (by kernel_rfl)) rfl ?_
 exact ⟨_, rfl, Kd.R_mono (Kd.R_far (p := ⟨gr, 1, none⟩) (Kd.R_far (p := ⟨gr, 0, none⟩) (Kd.R_types RD.out BRD.out (by decide)) (fun _ hk => hk.2) _) (fun _ hk => hk.2) _) (fun _ _ => trivial), below_set (below_set (below_step HB5.out HBD.out) GR.out) GR.out⟩

/-! ### impl_Reordered: function 30 -/
def impl_Reordered.f (k : Nat) (a0_0 : Int) (l0_1 : List (S56)) (a1 : Int) (l2 : List Int) : Option (Int × (List (S56)) × Int) := (impl_DiagramValid.f a0_0 l0_1).bind fun t264 => (if t264 = true then ((impl_Diagram_isPlace.f a0_0 l0_1 a1).bind fun t265 => (if t265 = true then ((impl_OrderValid.f k l2 a0_0).bind fun t266 => (if t266 = true then ((impl_reordered.f k a0_0 l0_1 a1 l2).bind fun bt267 => (some (bt267.1, bt267.2.1, bt267.2.2))) else (some (0, ([] : List (S56)), (-1))))) else (some (0, ([] : List (S56)), (-1))))) else (some (0, ([] : List (S56)), (-1))))
theorem impl_Reordered.mono : ∀ a0 a1 a2 a3 k, LeO (impl_Reordered.f k a0 a1 a2 a3) (impl_Reordered.f (k + 1) a0 a1 a2 a3) := by
 intro a0 a1 a2 a3 k
 unfold impl_Reordered.f
 repeat' first
   | (with_reducible exact impl_OrderValid.mono _ _ _)
   | (with_reducible exact impl_reordered.mono _ _ _ _ _)
   | (with_reducible exact LeO.refl _)
   | (with_reducible exact LeO.none _)
   | (with_reducible refine LeO.ite ?_ ?_)
   | (with_reducible refine LeO.bind ?_ (fun _ => ?_))
set_option maxHeartbeats 8000000 in
set_option maxRecDepth 100000 in
theorem impl_Reordered.calls (k : Nat) (a0_0 : Int) (A0_1 : Option Addr) (c0_1 : Nat) (l0_1 : List (S56)) (a1 : Int) (A2 : Option Addr) (c2 : Nat) (l2 : List Int) (r1 : Int) (r2 : List (S56)) (r3 : Int) (w : World) (hr0_1 : Kd.C k56 w A0_1 l0_1.length l0_1) (hc0_1 : l0_1.length ≤ c0_1) (hr2 : Kd.C (Kd.int .i64) w A2 l2.length l2) (hc2 : l2.length ≤ c2) (h : impl_Reordered.f k a0_0 l0_1 a1 l2 = some (r1, r2, r3)) :
  Calls Try.prog 30 #[.agg #[.int .i64 a0_0, .slice A0_1 l0_1.length c0_1], .int .i64 a1, .slice A2 l2.length c2] w fun e w' => ∃ v1_ : Value, e = .returned (.tuple #[.agg #[.int .i64 r1, v1_], .int .i64 r3]) ∧ Kd.R k56 56 w' w.heap.size (fun _ => True) v1_ r2 ∧ Below w.heap.size w w' := by
 have hu48 := Try.underlying48
 have HR0_1 := Aside0.mk hr0_1
 have HC0_1 := Aside0.mk hc0_1
 clear hr0_1 hc0_1
 have HR2 := Aside0.mk hr2
 have HC2 := Aside0.mk hc2
 clear hr2 hc2
 have HB := Aside0.mk (Below.refl w.heap.size w)
 have H : ((impl_DiagramValid.f a0_0 l0_1).bind fun t264 => (if t264 = true then ((impl_Diagram_isPlace.f a0_0 l0_1 a1).bind fun t265 => (if t265 = true then ((impl_OrderValid.f k l2 a0_0).bind fun t266 => (if t266 = true then ((impl_reordered.f k a0_0 l0_1 a1 l2).bind fun bt267 => (some (bt267.1, bt267.2.1, bt267.2.2))) else (some (0, ([] : List (S56)), (-1))))) else (some (0, ([] : List (S56)), (-1))))) else (some (0, ([] : List (S56)), (-1))))) = some (r1, r2, r3) := h
 clear h
 replace H := Option.bind_eq_some_iff.mp H
 obtain ⟨t264, A40, H⟩ := H
 replace H : (if t264 = true then ((impl_Diagram_isPlace.f a0_0 l0_1 a1).bind fun t265 => (if t265 = true then ((impl_OrderValid.f k l2 a0_0).bind fun t266 => (if t266 = true then ((impl_reordered.f k a0_0 l0_1 a1 l2).bind fun bt267 => (some (bt267.1, bt267.2.1, bt267.2.2))) else (some (0, ([] : List (S56)), (-1))))) else (some (0, ([] : List (S56)), (-1))))) else (some (0, ([] : List (S56)), (-1)))) = some (r1, r2, r3) := H
 have A4 := Aside0.mk A40
 clear A40
 by_cases c5 : t264 = true
 ·subst c5
  have H1 : ((impl_Diagram_isPlace.f a0_0 l0_1 a1).bind fun t265 => (if t265 = true then ((impl_OrderValid.f k l2 a0_0).bind fun t266 => (if t266 = true then ((impl_reordered.f k a0_0 l0_1 a1 l2).bind fun bt267 => (some (bt267.1, bt267.2.1, bt267.2.2))) else (some (0, ([] : List (S56)), (-1))))) else (some (0, ([] : List (S56)), (-1))))) = some (r1, r2, r3) := by rw [if_pos rfl] at H; exact H
  clear H
  have H := H1
  clear H1
  replace H := Option.bind_eq_some_iff.mp H
  obtain ⟨t265, A60, H⟩ := H
  replace H : (if t265 = true then ((impl_OrderValid.f k l2 a0_0).bind fun t266 => (if t266 = true then ((impl_reordered.f k a0_0 l0_1 a1 l2).bind fun bt267 => (some (bt267.1, bt267.2.1, bt267.2.2))) else (some (0, ([] : List (S56)), (-1))))) else (some (0, ([] : List (S56)), (-1)))) = some (r1, r2, r3) := H
  have A6 := Aside0.mk A60
  clear A60
  by_cases c7 : t265 = true
  ·subst c7
   have H1 : ((impl_OrderValid.f k l2 a0_0).bind fun t266 => (if t266 = true then ((impl_reordered.f k a0_0 l0_1 a1 l2).bind fun bt267 => (some (bt267.1, bt267.2.1, bt267.2.2))) else (some (0, ([] : List (S56)), (-1))))) = some (r1, r2, r3) := by rw [if_pos rfl] at H; exact H
   clear H
   have H := H1
   clear H1
   replace H := Option.bind_eq_some_iff.mp H
   obtain ⟨t266, A80, H⟩ := H
   replace H : (if t266 = true then ((impl_reordered.f k a0_0 l0_1 a1 l2).bind fun bt267 => (some (bt267.1, bt267.2.1, bt267.2.2))) else (some (0, ([] : List (S56)), (-1)))) = some (r1, r2, r3) := H
   have A8 := Aside0.mk A80
   clear A80
   by_cases c9 : t266 = true
   ·subst c9
    have H1 : ((impl_reordered.f k a0_0 l0_1 a1 l2).bind fun bt267 => (some (bt267.1, bt267.2.1, bt267.2.2))) = some (r1, r2, r3) := by rw [if_pos rfl] at H; exact H
    clear H
    have H := H1
    clear H1
    replace H := Option.bind_eq_some_iff.mp H
    obtain ⟨⟨t267, t268, t271⟩, A100, H⟩ := H
    replace H : (some (t267, t268, t271)) = some (r1, r2, r3) := H
    have A10 := Aside0.mk A100
    clear A100
    simp only [Option.some.injEq, Prod.mk.injEq] at H
    obtain ⟨rfl, rfl, rfl⟩ := H
    go_enter Try.func30, Try.ntmps30
    go_wp2_with (first | ((with_reducible refine gate_dst (N := 3) rfl ?_); refine box_event ?hg (N := 3) ?hd (cs := #[.int .i64 a0_0, .slice A0_1 l0_1.length c0_1]) (t := 48) ?hr ?_; (case hd => rfl); (case hg => rfl); (case hr => first | (go_simp; done) | (go_simp; rfl)); intro gb262 hg w11 hbox hb; have n0_ := Aside0.mk (below_step hbB hb); have n1_ := Aside0.mk (hbox); have n2_ := Aside0.mk ((gwb hg (below_size hbB) : w.heap.size ≤ gb262)); have n3_ := n2_; clear HB; have HB := n0_; have BK262 := n1_; have GW262 := n2_; have GE262 := n3_; clear n0_ n1_ n2_ n3_; clear hb hbox hg) | ((with_reducible refine gate_dst (N := 6) rfl ?_); refine box_event ?hg (N := 6) ?hd (cs := #[.int .i64 0, .slice none 0 0]) (t := 48) ?hr ?_; (case hd => rfl); (case hg => rfl); (case hr => first | (go_simp; done) | (go_simp; rfl)); intro gb263 hg w12 hbox hb; have n0_ := Aside0.mk (blk_below (g := gb262) (o := .cells #[.int .i64 a0_0, .slice A0_1 l0_1.length c0_1] 48 (0, 0)) (bvK BK262.out) hb); have n1_ := Aside0.mk (below_step hbC hb); have n2_ := Aside0.mk (hbox); have n3_ := Aside0.mk ((gwb hg (below_size hbC) : w.heap.size ≤ gb263)); have n4_ := n3_; have n5_ := Aside0.mk ((by rw [hg]; exact Nat.ne_of_lt (blk_lt (g := gb262) (o := .cells #[.int .i64 a0_0, .slice A0_1 l0_1.length c0_1] 48 (0, 0)) (bvK BK262.out)) : gb262 ≠ gb263)); have n6_ := Aside0.mk ((by rw [hg]; exact Nat.ne_of_gt (blk_lt (g := gb262) (o := .cells #[.int .i64 a0_0, .slice A0_1 l0_1.length c0_1] 48 (0, 0)) (bvK BK262.out)) : gb263 ≠ gb262)); clear BK262; clear HB; have BK262 := n0_; have HB := n1_; have BK263 := n2_; have GW263 := n3_; have GE263 := n4_; have NB262_263 := n5_; have NB263_262 := n6_; clear n0_ n1_ n2_ n3_ n4_ n5_ n6_; clear hb hbox hg; have hnb13 := NB262_263.out; have hnc13 := NB263_262.out; have hcz14_0 : w12.cell? ⟨gb262, 0, none⟩ = some (.int .i64 a0_0) := (blk_cell BK262.out 0).trans rfl; have hcz14_1 : w12.cell? ⟨gb262, 1, none⟩ = some (.slice A0_1 l0_1.length c0_1) := (blk_cell BK262.out 1).trans rfl; have hfz14_0 := blk_frozen BK262.out 0; have hfz14_1 := blk_frozen BK262.out 1) | ((with_reducible refine gate_callee (f := 44) rfl ?_); refine goesL_ (some 9) rfl rfl Try.func44 (by kernel_rfl) rfl #[.agg #[.int .i64 a0_0, .slice A0_1 l0_1.length c0_1]] rfl lmB ?_; (with_reducible refine (impl_DiagramValid.calls a0_0 _ _ l0_1 true _ ?side1 ?side2 A4.out).mono ?_); (case side1 => exact kcR (Kd.C_below HR0_1.out HB.out)); (case side2 => exact HC0_1.out); rintro e w15 ⟨rfl, hb⟩; refine ⟨_, rfl, ?_⟩; have n0_ := Aside0.mk (blk_below (g := gb262) (o := .cells #[.int .i64 a0_0, .slice A0_1 l0_1.length c0_1] 48 (0, 0)) (bvK BK262.out) hb); have n1_ := Aside0.mk (blk_below (g := gb263) (o := .cells #[.int .i64 0, .slice none 0 0] 48 (0, 0)) (bvK BK263.out) hb); have n2_ := Aside0.mk (below_step hbC hb); clear BK262; clear BK263; clear HB; have BK262 := n0_; have BK263 := n1_; have HB := n2_; clear n0_ n1_ n2_; (try clear hb); (try clear hb2); (try clear hk); (try clear hi); have hcz16_0 : w15.cell? ⟨gb262, 0, none⟩ = some (.int .i64 a0_0) := (blk_cell BK262.out 0).trans rfl; have hcz16_1 : w15.cell? ⟨gb262, 1, none⟩ = some (.slice A0_1 l0_1.length c0_1) := (blk_cell BK262.out 1).trans rfl; have hfz16_0 := blk_frozen BK262.out 0; have hfz16_1 := blk_frozen BK262.out 1) | (go_at_call 85; (with_reducible refine (impl_Diagram_isPlace.calls a0_0 _ _ l0_1 a1 true _ ?side1 ?side2 A6.out).mono ?_); (case side1 => exact kcR (Kd.C_below HR0_1.out HB.out)); (case side2 => exact HC0_1.out); rintro e w17 ⟨rfl, hb⟩; have n0_ := Aside0.mk (blk_below (g := gb262) (o := .cells #[.int .i64 a0_0, .slice A0_1 l0_1.length c0_1] 48 (0, 0)) (bvK BK262.out) hb); have n1_ := Aside0.mk (blk_below (g := gb263) (o := .cells #[.int .i64 0, .slice none 0 0] 48 (0, 0)) (bvK BK263.out) hb); have n2_ := Aside0.mk (below_step hbC hb); clear BK262; clear BK263; clear HB; have BK262 := n0_; have BK263 := n1_; have HB := n2_; clear n0_ n1_ n2_; (try clear hb); (try clear hb2); (try clear hk); (try clear hi); have hcz18_0 : w17.cell? ⟨gb262, 0, none⟩ = some (.int .i64 a0_0) := (blk_cell BK262.out 0).trans rfl; have hcz18_1 : w17.cell? ⟨gb262, 1, none⟩ = some (.slice A0_1 l0_1.length c0_1) := (blk_cell BK262.out 1).trans rfl; have hfz18_0 := blk_frozen BK262.out 0; have hfz18_1 := blk_frozen BK262.out 1) | (go_at_call 35; (with_reducible refine (impl_OrderValid.calls k _ _ l2 a0_0 true _ ?side1 ?side2 A8.out).mono ?_); (case side1 => exact kcR (Kd.C_below HR2.out HB.out)); (case side2 => exact HC2.out); rintro e w' ⟨rfl, ⟨nd, rfl⟩⟩; (try (rw [drewN_self w17]; generalize hq_ : World.drewN w17 _ = w17; have n0_ : Aside0 (w17.heap[gb262]? = some (.cells #[.int .i64 a0_0, .slice A0_1 l0_1.length c0_1] 48 (0, 0))) := ⟨by rw [← hq_]; exact (bvK BK262.out)⟩; have n1_ : Aside0 (w17.heap[gb263]? = some (.cells #[.int .i64 0, .slice none 0 0] 48 (0, 0))) := ⟨by rw [← hq_]; exact (bvK BK263.out)⟩; have n2_ : Aside0 (Below w.heap.size w w17) := ⟨by rw [← hq_]; exact hbC⟩; clear BK262 BK263 HB hq_; have BK262 := n0_; have BK263 := n1_; have HB := n2_; clear n0_ n1_ n2_; have hcz18_0 : w17.cell? ⟨gb262, 0, none⟩ = some (.int .i64 a0_0) := (blk_cell BK262.out 0).trans rfl; have hcz18_1 : w17.cell? ⟨gb262, 1, none⟩ = some (.slice A0_1 l0_1.length c0_1) := (blk_cell BK262.out 1).trans rfl; have hfz18_0 := blk_frozen BK262.out 0; have hfz18_1 := blk_frozen BK262.out 1))) | ((with_reducible refine gate_callee (f := 86) rfl ?_); refine goesL_ (some 28) rfl rfl Try.func86 (by kernel_rfl) rfl #[.agg #[.int .i64 a0_0, .slice A0_1 l0_1.length c0_1], .int .i64 a1, .slice A2 l2.length c2] rfl lmB ?_; (with_reducible refine (impl_reordered.calls k a0_0 _ _ l0_1 a1 _ _ l2 t267 t268 t271 _ ?side1 ?side2 ?side3 ?side4 A10.out).mono ?_); (case side1 => exact kcR (Kd.C_below HR0_1.out HB.out)); (case side2 => exact HC0_1.out); (case side3 => exact kcR (Kd.C_below HR2.out HB.out)); (case side4 => exact HC2.out); rintro e w19 ⟨v269, rfl, ho0, hb⟩; refine ⟨_, rfl, ?_⟩; have n0_ := Aside0.mk (Kd.R_lower ho0 (below_size hbC)); have n1_ := Aside0.mk (blk_below (g := gb262) (o := .cells #[.int .i64 a0_0, .slice A0_1 l0_1.length c0_1] 48 (0, 0)) (bvK BK262.out) hb); have n2_ := Aside0.mk (blk_below (g := gb263) (o := .cells #[.int .i64 0, .slice none 0 0] 48 (0, 0)) (bvK BK263.out) hb); have n3_ := Aside0.mk (below_step hbC hb); clear BK262; clear BK263; clear HB; have HO270 := n0_; have BK262 := n1_; have BK263 := n2_; have HB := n3_; clear n0_ n1_ n2_ n3_; (try clear hb); (try clear hb2); (try clear hk); (try clear hi); (try clear ho0); have hcz20_0 : w19.cell? ⟨gb263, 0, none⟩ = some (.int .i64 0) := (blk_cell BK263.out 0).trans rfl; have hcz20_1 : w19.cell? ⟨gb263, 1, none⟩ = some (.slice none 0 0) := (blk_cell BK263.out 1).trans rfl; have hfz20_0 := blk_frozen BK263.out 0; have hfz20_1 := blk_frozen BK263.out 1; obtain ⟨Ao21, co21, eo21⟩ := Kd.R_slice HO270.out; subst eo21))
    refine bodyPost_ret (results_ct rfl _ _ gb263 48 #[.int .i64 t267, .slice Ao21 t268.length co21] (0, 0) _ rfl (by (with_reducible repeat first | apply bkN | apply bkD | apply bkA); refine blk_put (cs := #[.int .i64 t267, .slice none 0 0]) ?_ 1 _ rfl; (with_reducible repeat first | apply bkN | apply bkD | apply bkA); refine blk_put (cs := #[.int .i64 0, .slice none 0 0]) ?_ 0 _ rfl; (with_reducible repeat first | apply bkN | apply bkD | apply bkA); exact BK263.out) Try.underlying48 rfl (by kernel_rfl)) rfl ?_
    exact ⟨_, ers, by (with_reducible repeat first | apply rvA | apply rvN | apply rvD); exact Kd.R_mono (Kd.R_far (p := ⟨gb263, 1, none⟩) (Kd.R_far (p := ⟨gb263, 0, none⟩) (Kd.R_types HO270.out BK263.out (by decide)) (fun _ hk => hk.2) (.int .i64 t267)) (fun _ hk => hk.2) (.slice Ao21 t268.length co21)) (fun _ hk => trivial), hbC⟩
   ·replace c9 := Bool.eq_false_iff.mpr c9
    subst c9
    have H1 : (some (0, ([] : List (S56)), (-1))) = some (r1, r2, r3) := by rw [if_neg (show ¬ (false = true) by decide)] at H; exact H
    clear H
    have H := H1
    clear H1
    simp only [Option.some.injEq, Prod.mk.injEq] at H
    obtain ⟨rfl, rfl, rfl⟩ := H
    go_enter Try.func30, Try.ntmps30
    go_wp2_with (first | ((with_reducible refine gate_dst (N := 3) rfl ?_); refine box_event ?hg (N := 3) ?hd (cs := #[.int .i64 a0_0, .slice A0_1 l0_1.length c0_1]) (t := 48) ?hr ?_; (case hd => rfl); (case hg => rfl); (case hr => first | (go_simp; done) | (go_simp; rfl)); intro gb262 hg w22 hbox hb; have n0_ := Aside0.mk (below_step hbB hb); have n1_ := Aside0.mk (hbox); have n2_ := Aside0.mk ((gwb hg (below_size hbB) : w.heap.size ≤ gb262)); have n3_ := n2_; clear HB; have HB := n0_; have BK262 := n1_; have GW262 := n2_; have GE262 := n3_; clear n0_ n1_ n2_ n3_; clear hb hbox hg) | ((with_reducible refine gate_dst (N := 6) rfl ?_); refine box_event ?hg (N := 6) ?hd (cs := #[.int .i64 0, .slice none 0 0]) (t := 48) ?hr ?_; (case hd => rfl); (case hg => rfl); (case hr => first | (go_simp; done) | (go_simp; rfl)); intro gb263 hg w23 hbox hb; have n0_ := Aside0.mk (blk_below (g := gb262) (o := .cells #[.int .i64 a0_0, .slice A0_1 l0_1.length c0_1] 48 (0, 0)) (bvK BK262.out) hb); have n1_ := Aside0.mk (below_step hbC hb); have n2_ := Aside0.mk (hbox); have n3_ := Aside0.mk ((gwb hg (below_size hbC) : w.heap.size ≤ gb263)); have n4_ := n3_; have n5_ := Aside0.mk ((by rw [hg]; exact Nat.ne_of_lt (blk_lt (g := gb262) (o := .cells #[.int .i64 a0_0, .slice A0_1 l0_1.length c0_1] 48 (0, 0)) (bvK BK262.out)) : gb262 ≠ gb263)); have n6_ := Aside0.mk ((by rw [hg]; exact Nat.ne_of_gt (blk_lt (g := gb262) (o := .cells #[.int .i64 a0_0, .slice A0_1 l0_1.length c0_1] 48 (0, 0)) (bvK BK262.out)) : gb263 ≠ gb262)); clear BK262; clear HB; have BK262 := n0_; have HB := n1_; have BK263 := n2_; have GW263 := n3_; have GE263 := n4_; have NB262_263 := n5_; have NB263_262 := n6_; clear n0_ n1_ n2_ n3_ n4_ n5_ n6_; clear hb hbox hg; have hnb24 := NB262_263.out; have hnc24 := NB263_262.out; have hcz25_0 : w23.cell? ⟨gb262, 0, none⟩ = some (.int .i64 a0_0) := (blk_cell BK262.out 0).trans rfl; have hcz25_1 : w23.cell? ⟨gb262, 1, none⟩ = some (.slice A0_1 l0_1.length c0_1) := (blk_cell BK262.out 1).trans rfl; have hfz25_0 := blk_frozen BK262.out 0; have hfz25_1 := blk_frozen BK262.out 1) | ((with_reducible refine gate_callee (f := 44) rfl ?_); refine goesL_ (some 9) rfl rfl Try.func44 (by kernel_rfl) rfl #[.agg #[.int .i64 a0_0, .slice A0_1 l0_1.length c0_1]] rfl lmB ?_; (with_reducible refine (impl_DiagramValid.calls a0_0 _ _ l0_1 true _ ?side1 ?side2 A4.out).mono ?_); (case side1 => exact kcR (Kd.C_below HR0_1.out HB.out)); (case side2 => exact HC0_1.out); rintro e w26 ⟨rfl, hb⟩; refine ⟨_, rfl, ?_⟩; have n0_ := Aside0.mk (blk_below (g := gb262) (o := .cells #[.int .i64 a0_0, .slice A0_1 l0_1.length c0_1] 48 (0, 0)) (bvK BK262.out) hb); have n1_ := Aside0.mk (blk_below (g := gb263) (o := .cells #[.int .i64 0, .slice none 0 0] 48 (0, 0)) (bvK BK263.out) hb); have n2_ := Aside0.mk (below_step hbC hb); clear BK262; clear BK263; clear HB; have BK262 := n0_; have BK263 := n1_; have HB := n2_; clear n0_ n1_ n2_; (try clear hb); (try clear hb2); (try clear hk); (try clear hi); have hcz27_0 : w26.cell? ⟨gb262, 0, none⟩ = some (.int .i64 a0_0) := (blk_cell BK262.out 0).trans rfl; have hcz27_1 : w26.cell? ⟨gb262, 1, none⟩ = some (.slice A0_1 l0_1.length c0_1) := (blk_cell BK262.out 1).trans rfl; have hfz27_0 := blk_frozen BK262.out 0; have hfz27_1 := blk_frozen BK262.out 1) | (go_at_call 85; (with_reducible refine (impl_Diagram_isPlace.calls a0_0 _ _ l0_1 a1 true _ ?side1 ?side2 A6.out).mono ?_); (case side1 => exact kcR (Kd.C_below HR0_1.out HB.out)); (case side2 => exact HC0_1.out); rintro e w28 ⟨rfl, hb⟩; have n0_ := Aside0.mk (blk_below (g := gb262) (o := .cells #[.int .i64 a0_0, .slice A0_1 l0_1.length c0_1] 48 (0, 0)) (bvK BK262.out) hb); have n1_ := Aside0.mk (blk_below (g := gb263) (o := .cells #[.int .i64 0, .slice none 0 0] 48 (0, 0)) (bvK BK263.out) hb); have n2_ := Aside0.mk (below_step hbC hb); clear BK262; clear BK263; clear HB; have BK262 := n0_; have BK263 := n1_; have HB := n2_; clear n0_ n1_ n2_; (try clear hb); (try clear hb2); (try clear hk); (try clear hi); have hcz29_0 : w28.cell? ⟨gb262, 0, none⟩ = some (.int .i64 a0_0) := (blk_cell BK262.out 0).trans rfl; have hcz29_1 : w28.cell? ⟨gb262, 1, none⟩ = some (.slice A0_1 l0_1.length c0_1) := (blk_cell BK262.out 1).trans rfl; have hfz29_0 := blk_frozen BK262.out 0; have hfz29_1 := blk_frozen BK262.out 1) | (go_at_call 35; (with_reducible refine (impl_OrderValid.calls k _ _ l2 a0_0 false _ ?side1 ?side2 A8.out).mono ?_); (case side1 => exact kcR (Kd.C_below HR2.out HB.out)); (case side2 => exact HC2.out); rintro e w' ⟨rfl, ⟨nd, rfl⟩⟩; (try (rw [drewN_self w28]; generalize hq_ : World.drewN w28 _ = w28; have n0_ : Aside0 (w28.heap[gb262]? = some (.cells #[.int .i64 a0_0, .slice A0_1 l0_1.length c0_1] 48 (0, 0))) := ⟨by rw [← hq_]; exact (bvK BK262.out)⟩; have n1_ : Aside0 (w28.heap[gb263]? = some (.cells #[.int .i64 0, .slice none 0 0] 48 (0, 0))) := ⟨by rw [← hq_]; exact (bvK BK263.out)⟩; have n2_ : Aside0 (Below w.heap.size w w28) := ⟨by rw [← hq_]; exact hbC⟩; clear BK262 BK263 HB hq_; have BK262 := n0_; have BK263 := n1_; have HB := n2_; clear n0_ n1_ n2_)); have hcz30_0 : w28.cell? ⟨gb263, 0, none⟩ = some (.int .i64 0) := (blk_cell BK263.out 0).trans rfl; have hcz30_1 : w28.cell? ⟨gb263, 1, none⟩ = some (.slice none 0 0) := (blk_cell BK263.out 1).trans rfl; have hfz30_0 := blk_frozen BK263.out 0; have hfz30_1 := blk_frozen BK263.out 1))
    refine bodyPost_ret (results_ct rfl _ _ gb263 48 #[.int .i64 0, .slice none 0 0] (0, 0) _ rfl (by (with_reducible repeat first | apply bkN | apply bkD | apply bkA); refine blk_put (cs := #[.int .i64 0, .slice none 0 0]) ?_ 1 _ rfl; (with_reducible repeat first | apply bkN | apply bkD | apply bkA); refine blk_put (cs := #[.int .i64 0, .slice none 0 0]) ?_ 0 _ rfl; (with_reducible repeat first | apply bkN | apply bkD | apply bkA); exact BK263.out) Try.underlying48 rfl (by kernel_rfl)) rfl ?_
    exact ⟨_, ers, by first | exact Kd.R_nil _ _ _ _ _ | exact Kd.N_nil _ _ _ _ _ | exact Kd.V_nil _ _ _ _ _ | exact Kd.Q_nil _ _ _ _ _ | exact Kd.S_nil _ _ _ _ _, hbC⟩
  ·replace c7 := Bool.eq_false_iff.mpr c7
   subst c7
   have H1 : (some (0, ([] : List (S56)), (-1))) = some (r1, r2, r3) := by rw [if_neg (show ¬ (false = true) by decide)] at H; exact H
   clear H
   have H := H1
   clear H1
   simp only [Option.some.injEq, Prod.mk.injEq] at H
   obtain ⟨rfl, rfl, rfl⟩ := H
   go_enter Try.func30, Try.ntmps30
   go_wp2_with (first | ((with_reducible refine gate_dst (N := 3) rfl ?_); refine box_event ?hg (N := 3) ?hd (cs := #[.int .i64 a0_0, .slice A0_1 l0_1.length c0_1]) (t := 48) ?hr ?_; (case hd => rfl); (case hg => rfl); (case hr => first | (go_simp; done) | (go_simp; rfl)); intro gb262 hg w31 hbox hb; have n0_ := Aside0.mk (below_step hbB hb); have n1_ := Aside0.mk (hbox); have n2_ := Aside0.mk ((gwb hg (below_size hbB) : w.heap.size ≤ gb262)); have n3_ := n2_; clear HB; have HB := n0_; have BK262 := n1_; have GW262 := n2_; have GE262 := n3_; clear n0_ n1_ n2_ n3_; clear hb hbox hg) | ((with_reducible refine gate_dst (N := 6) rfl ?_); refine box_event ?hg (N := 6) ?hd (cs := #[.int .i64 0, .slice none 0 0]) (t := 48) ?hr ?_; (case hd => rfl); (case hg => rfl); (case hr => first | (go_simp; done) | (go_simp; rfl)); intro gb263 hg w32 hbox hb; have n0_ := Aside0.mk (blk_below (g := gb262) (o := .cells #[.int .i64 a0_0, .slice A0_1 l0_1.length c0_1] 48 (0, 0)) (bvK BK262.out) hb); have n1_ := Aside0.mk (below_step hbC hb); have n2_ := Aside0.mk (hbox); have n3_ := Aside0.mk ((gwb hg (below_size hbC) : w.heap.size ≤ gb263)); have n4_ := n3_; have n5_ := Aside0.mk ((by rw [hg]; exact Nat.ne_of_lt (blk_lt (g := gb262) (o := .cells #[.int .i64 a0_0, .slice A0_1 l0_1.length c0_1] 48 (0, 0)) (bvK BK262.out)) : gb262 ≠ gb263)); have n6_ := Aside0.mk ((by rw [hg]; exact Nat.ne_of_gt (blk_lt (g := gb262) (o := .cells #[.int .i64 a0_0, .slice A0_1 l0_1.length c0_1] 48 (0, 0)) (bvK BK262.out)) : gb263 ≠ gb262)); clear BK262; clear HB; have BK262 := n0_; have HB := n1_; have BK263 := n2_; have GW263 := n3_; have GE263 := n4_; have NB262_263 := n5_; have NB263_262 := n6_; clear n0_ n1_ n2_ n3_ n4_ n5_ n6_; clear hb hbox hg; have hnb33 := NB262_263.out; have hnc33 := NB263_262.out; have hcz34_0 : w32.cell? ⟨gb262, 0, none⟩ = some (.int .i64 a0_0) := (blk_cell BK262.out 0).trans rfl; have hcz34_1 : w32.cell? ⟨gb262, 1, none⟩ = some (.slice A0_1 l0_1.length c0_1) := (blk_cell BK262.out 1).trans rfl; have hfz34_0 := blk_frozen BK262.out 0; have hfz34_1 := blk_frozen BK262.out 1) | ((with_reducible refine gate_callee (f := 44) rfl ?_); refine goesL_ (some 9) rfl rfl Try.func44 (by kernel_rfl) rfl #[.agg #[.int .i64 a0_0, .slice A0_1 l0_1.length c0_1]] rfl lmB ?_; (with_reducible refine (impl_DiagramValid.calls a0_0 _ _ l0_1 true _ ?side1 ?side2 A4.out).mono ?_); (case side1 => exact kcR (Kd.C_below HR0_1.out HB.out)); (case side2 => exact HC0_1.out); rintro e w35 ⟨rfl, hb⟩; refine ⟨_, rfl, ?_⟩; have n0_ := Aside0.mk (blk_below (g := gb262) (o := .cells #[.int .i64 a0_0, .slice A0_1 l0_1.length c0_1] 48 (0, 0)) (bvK BK262.out) hb); have n1_ := Aside0.mk (blk_below (g := gb263) (o := .cells #[.int .i64 0, .slice none 0 0] 48 (0, 0)) (bvK BK263.out) hb); have n2_ := Aside0.mk (below_step hbC hb); clear BK262; clear BK263; clear HB; have BK262 := n0_; have BK263 := n1_; have HB := n2_; clear n0_ n1_ n2_; (try clear hb); (try clear hb2); (try clear hk); (try clear hi); have hcz36_0 : w35.cell? ⟨gb262, 0, none⟩ = some (.int .i64 a0_0) := (blk_cell BK262.out 0).trans rfl; have hcz36_1 : w35.cell? ⟨gb262, 1, none⟩ = some (.slice A0_1 l0_1.length c0_1) := (blk_cell BK262.out 1).trans rfl; have hfz36_0 := blk_frozen BK262.out 0; have hfz36_1 := blk_frozen BK262.out 1) | (go_at_call 85; (with_reducible refine (impl_Diagram_isPlace.calls a0_0 _ _ l0_1 a1 false _ ?side1 ?side2 A6.out).mono ?_); (case side1 => exact kcR (Kd.C_below HR0_1.out HB.out)); (case side2 => exact HC0_1.out); rintro e w37 ⟨rfl, hb⟩; have n0_ := Aside0.mk (blk_below (g := gb262) (o := .cells #[.int .i64 a0_0, .slice A0_1 l0_1.length c0_1] 48 (0, 0)) (bvK BK262.out) hb); have n1_ := Aside0.mk (blk_below (g := gb263) (o := .cells #[.int .i64 0, .slice none 0 0] 48 (0, 0)) (bvK BK263.out) hb); have n2_ := Aside0.mk (below_step hbC hb); clear BK262; clear BK263; clear HB; have BK262 := n0_; have BK263 := n1_; have HB := n2_; clear n0_ n1_ n2_; (try clear hb); (try clear hb2); (try clear hk); (try clear hi); have hcz38_0 : w37.cell? ⟨gb263, 0, none⟩ = some (.int .i64 0) := (blk_cell BK263.out 0).trans rfl; have hcz38_1 : w37.cell? ⟨gb263, 1, none⟩ = some (.slice none 0 0) := (blk_cell BK263.out 1).trans rfl; have hfz38_0 := blk_frozen BK263.out 0; have hfz38_1 := blk_frozen BK263.out 1))
   refine bodyPost_ret (results_ct rfl _ _ gb263 48 #[.int .i64 0, .slice none 0 0] (0, 0) _ rfl (by (with_reducible repeat first | apply bkN | apply bkD | apply bkA); refine blk_put (cs := #[.int .i64 0, .slice none 0 0]) ?_ 1 _ rfl; (with_reducible repeat first | apply bkN | apply bkD | apply bkA); refine blk_put (cs := #[.int .i64 0, .slice none 0 0]) ?_ 0 _ rfl; (with_reducible repeat first | apply bkN | apply bkD | apply bkA); exact BK263.out) Try.underlying48 rfl (by kernel_rfl)) rfl ?_
   exact ⟨_, ers, by first | exact Kd.R_nil _ _ _ _ _ | exact Kd.N_nil _ _ _ _ _ | exact Kd.V_nil _ _ _ _ _ | exact Kd.Q_nil _ _ _ _ _ | exact Kd.S_nil _ _ _ _ _, hbC⟩
 ·replace c5 := Bool.eq_false_iff.mpr c5
  subst c5
  have H1 : (some (0, ([] : List (S56)), (-1))) = some (r1, r2, r3) := by rw [if_neg (show ¬ (false = true) by decide)] at H; exact H
  clear H
  have H := H1
  clear H1
  simp only [Option.some.injEq, Prod.mk.injEq] at H
  obtain ⟨rfl, rfl, rfl⟩ := H
  go_enter Try.func30, Try.ntmps30
  go_wp2_with (first | ((with_reducible refine gate_dst (N := 3) rfl ?_); refine box_event ?hg (N := 3) ?hd (cs := #[.int .i64 a0_0, .slice A0_1 l0_1.length c0_1]) (t := 48) ?hr ?_; (case hd => rfl); (case hg => rfl); (case hr => first | (go_simp; done) | (go_simp; rfl)); intro gb262 hg w39 hbox hb; have n0_ := Aside0.mk (below_step hbB hb); have n1_ := Aside0.mk (hbox); have n2_ := Aside0.mk ((gwb hg (below_size hbB) : w.heap.size ≤ gb262)); have n3_ := n2_; clear HB; have HB := n0_; have BK262 := n1_; have GW262 := n2_; have GE262 := n3_; clear n0_ n1_ n2_ n3_; clear hb hbox hg) | ((with_reducible refine gate_dst (N := 6) rfl ?_); refine box_event ?hg (N := 6) ?hd (cs := #[.int .i64 0, .slice none 0 0]) (t := 48) ?hr ?_; (case hd => rfl); (case hg => rfl); (case hr => first | (go_simp; done) | (go_simp; rfl)); intro gb263 hg w40 hbox hb; have n0_ := Aside0.mk (blk_below (g := gb262) (o := .cells #[.int .i64 a0_0, .slice A0_1 l0_1.length c0_1] 48 (0, 0)) (bvK BK262.out) hb); have n1_ := Aside0.mk (below_step hbC hb); have n2_ := Aside0.mk (hbox); have n3_ := Aside0.mk ((gwb hg (below_size hbC) : w.heap.size ≤ gb263)); have n4_ := n3_; have n5_ := Aside0.mk ((by rw [hg]; exact Nat.ne_of_lt (blk_lt (g := gb262) (o := .cells #[.int .i64 a0_0, .slice A0_1 l0_1.length c0_1] 48 (0, 0)) (bvK BK262.out)) : gb262 ≠ gb263)); have n6_ := Aside0.mk ((by rw [hg]; exact Nat.ne_of_gt (blk_lt (g := gb262) (o := .cells #[.int .i64 a0_0, .slice A0_1 l0_1.length c0_1] 48 (0, 0)) (bvK BK262.out)) : gb263 ≠ gb262)); clear BK262; clear HB; have BK262 := n0_; have HB := n1_; have BK263 := n2_; have GW263 := n3_; have GE263 := n4_; have NB262_263 := n5_; have NB263_262 := n6_; clear n0_ n1_ n2_ n3_ n4_ n5_ n6_; clear hb hbox hg; have hnb41 := NB262_263.out; have hnc41 := NB263_262.out; have hcz42_0 : w40.cell? ⟨gb262, 0, none⟩ = some (.int .i64 a0_0) := (blk_cell BK262.out 0).trans rfl; have hcz42_1 : w40.cell? ⟨gb262, 1, none⟩ = some (.slice A0_1 l0_1.length c0_1) := (blk_cell BK262.out 1).trans rfl; have hfz42_0 := blk_frozen BK262.out 0; have hfz42_1 := blk_frozen BK262.out 1) | ((with_reducible refine gate_callee (f := 44) rfl ?_); refine goesL_ (some 9) rfl rfl Try.func44 (by kernel_rfl) rfl #[.agg #[.int .i64 a0_0, .slice A0_1 l0_1.length c0_1]] rfl lmB ?_; (with_reducible refine (impl_DiagramValid.calls a0_0 _ _ l0_1 false _ ?side1 ?side2 A4.out).mono ?_); (case side1 => exact kcR (Kd.C_below HR0_1.out HB.out)); (case side2 => exact HC0_1.out); rintro e w43 ⟨rfl, hb⟩; refine ⟨_, rfl, ?_⟩; have n0_ := Aside0.mk (blk_below (g := gb262) (o := .cells #[.int .i64 a0_0, .slice A0_1 l0_1.length c0_1] 48 (0, 0)) (bvK BK262.out) hb); have n1_ := Aside0.mk (blk_below (g := gb263) (o := .cells #[.int .i64 0, .slice none 0 0] 48 (0, 0)) (bvK BK263.out) hb); have n2_ := Aside0.mk (below_step hbC hb); clear BK262; clear BK263; clear HB; have BK262 := n0_; have BK263 := n1_; have HB := n2_; clear n0_ n1_ n2_; (try clear hb); (try clear hb2); (try clear hk); (try clear hi); have hcz44_0 : w43.cell? ⟨gb263, 0, none⟩ = some (.int .i64 0) := (blk_cell BK263.out 0).trans rfl; have hcz44_1 : w43.cell? ⟨gb263, 1, none⟩ = some (.slice none 0 0) := (blk_cell BK263.out 1).trans rfl; have hfz44_0 := blk_frozen BK263.out 0; have hfz44_1 := blk_frozen BK263.out 1))
  refine bodyPost_ret (results_ct rfl _ _ gb263 48 #[.int .i64 0, .slice none 0 0] (0, 0) _ rfl (by (with_reducible repeat first | apply bkN | apply bkD | apply bkA); refine blk_put (cs := #[.int .i64 0, .slice none 0 0]) ?_ 1 _ rfl; (with_reducible repeat first | apply bkN | apply bkD | apply bkA); refine blk_put (cs := #[.int .i64 0, .slice none 0 0]) ?_ 0 _ rfl; (with_reducible repeat first | apply bkN | apply bkD | apply bkA); exact BK263.out) Try.underlying48 rfl (by kernel_rfl)) rfl ?_
  exact ⟨_, ers, by first | exact Kd.R_nil _ _ _ _ _ | exact Kd.N_nil _ _ _ _ _ | exact Kd.V_nil _ _ _ _ _ | exact Kd.Q_nil _ _ _ _ _ | exact Kd.S_nil _ _ _ _ _, hbC⟩

/-! ### impl_clone_int: function 70 -/
def impl_clone_int.f (l0 : List Int) : Option (List Int) := if l0.length ≤ 35184372088832 then some l0 else none
set_option maxHeartbeats 400000 in
set_option maxRecDepth 100000 in
theorem impl_clone_int.calls (A0 : Option Addr) (c0 : Nat) (l0 : List Int) (r : List Int) (w : World) (hr0 : Kd.C (Kd.int .i64) w A0 l0.length l0) (hc0 : l0.length ≤ c0) (h : impl_clone_int.f l0 = some r) :
  Calls Try.prog 70 #[.slice A0 l0.length c0] w fun e w' => ∃ v0_ : Value, e = .returned (v0_) ∧ Kd.R (Kd.int .i64) 3 w' w.heap.size (fun _ => True) v0_ r ∧ Below w.heap.size w w' := by
 unfold impl_clone_int.f at h
 by_cases c1 : l0.length ≤ 35184372088832
 ·rw [if_pos c1] at h
  obtain rfl := Option.some.inj h
  clear h
  have HR0 := Aside0.mk hr0
  have C1 := Aside0.mk c1
  clear hr0 c1
  by_cases c2 : l0.length = 0
  ·have c2b : ((l0.length : Int) == 0) = true := by rw [beq_iff_eq]; omega
   have HL := Aside0.mk (List.eq_nil_of_length_eq_zero c2)
   clear c2
   go_enter Try.func70, Try.ntmps70
   go_wp2
   go_ret
   exact ⟨_, rfl, by rw [HL.out]; exact Kd.R_nil _ _ _ _ _, Below.refl _ _⟩
  ·have c2b : ((l0.length : Int) == 0) = false := by rw [beq_eq_false_iff_ne]; omega
   have c2c : (l0.length == 0) = false := by rw [beq_eq_false_iff_ne]; omega
   go_enter Try.func70, Try.ntmps70
   go_wp2_with (first | ((with_reducible refine gate_dst (N := 9) rfl ?_); refine Kd.R_make (Kd.int .i64) _ 3 rfl (N := 9) rfl 38 _ _ rfl (l0.length : Int) rfl rfl Try.underlying38 (.int .i64 0) 8 info3 rfl (by decide) (by omega) 0 (ok := fun _ => True) (okp := fun _ => True) rfl (fun _ hk => hk) trivial (by omega) (by have := C1.out; omega) (Below.refl _ _) (Nat.le_refl _) ?_; intro v178 w4 ho5 hb hg_ hnew_; clear hg_ hnew_; have HO := Aside0.mk ho5; have HB := Aside0.mk hb; clear hb ho5) | ((with_reducible refine gate_dst (N := 12) rfl ?_); refine Copy.R_copy (w0 := w) (xs := List.replicate (l0.length : Int).toNat 0) (ys := l0) w.heap.size 3 rfl _ _ 38 38 rfl Try.underlying38 (by kernel_rfl) rfl rfl (by simp) HO.out (Kd.C_below HR0.out HB.out) HB.out ?_; intro w5 ho5 hb; clear HB; have HO5 := Aside0.mk ho5; have HB := Aside0.mk hb; clear hb ho5))
   go_ret
   exact ⟨_, rfl, HO5.out, HB.out⟩
 ·rw [if_neg c1] at h
  exact absurd h (by simp)

/-! ### impl_OrderBack: function 31 -/
def impl_OrderBack.l0 : Nat → List Int → List Int → Int → Int → Option (List Int)
 | 0, _, _, _, _ => none
 | k + 1, x3, x14, x15, x16 => if x16 < x15 then (if 0 ≤ x16 then (if x16 < (x14.length : Int) then (if 0 ≤ (rd x14 x16) then (if (rd x14 x16) < (x3.length : Int) then (impl_OrderBack.l0 k (x3.set ((rd x14 x16) : Int).toNat x16) x14 x15 (wrap64 (x16 + 1))) else (none)) else (none)) else (none)) else (none)) else ((impl_clone_int.f x3).bind fun t278 => (some t278))
def impl_OrderBack.f (k : Nat) (l0 : List Int) : Option (List Int) := (impl_OrderValid.f k l0 (l0.length : Int)).bind fun t272 => (if t272 = true then (if 0 ≤ (l0.length : Int) then (if ((l0.length : Int) : Int).toNat ≤ 35184372088832 then (impl_OrderBack.l0 k (List.replicate ((l0.length : Int) : Int).toNat 0) l0 (l0.length : Int) 0) else (none)) else (none)) else (some ([] : List Int)))
theorem impl_OrderBack.mono_l : ∀ k, (∀ y0 y1 y2 y3, LeO (impl_OrderBack.l0 k y0 y1 y2 y3) (impl_OrderBack.l0 (k + 1) y0 y1 y2 y3))
 | 0 => fun _ _ _ _ r h => by simp [impl_OrderBack.l0] at h
 | k + 1 => by
  have ih0 := impl_OrderBack.mono_l k
  ·intro y0 y1 y2 y3
   unfold impl_OrderBack.l0
   repeat' first
   | (with_reducible exact ih0 _ _ _ _)
   | (with_reducible exact impl_OrderValid.mono _ _ _)
   | (with_reducible exact LeO.refl _)
   | (with_reducible exact LeO.none _)
   | (with_reducible refine LeO.ite ?_ ?_)
   | (with_reducible refine LeO.bind ?_ (fun _ => ?_))
theorem impl_OrderBack.mono : ∀ a0 k, LeO (impl_OrderBack.f k a0) (impl_OrderBack.f (k + 1) a0) := by
 intro a0 k
 have ih0 := impl_OrderBack.mono_l k
 unfold impl_OrderBack.f
 repeat' first
   | (with_reducible exact ih0 _ _ _ _)
   | (with_reducible exact impl_OrderValid.mono _ _ _)
   | (with_reducible exact LeO.refl _)
   | (with_reducible exact LeO.none _)
   | (with_reducible refine LeO.ite ?_ ?_)
   | (with_reducible refine LeO.bind ?_ (fun _ => ?_))
set_option maxHeartbeats 8000000 in
set_option maxRecDepth 100000 in
theorem impl_OrderBack.calls (k : Nat) (A0 : Option Addr) (c0 : Nat) (l0 : List Int) (r : List Int) (w : World) (hr0 : Kd.C (Kd.int .i64) w A0 l0.length l0) (hc0 : l0.length ≤ c0) (h : impl_OrderBack.f k l0 = some r) :
  Calls Try.prog 31 #[.slice A0 l0.length c0] w fun e w' => ∃ v0_ : Value, e = .returned (v0_) ∧ Kd.R (Kd.int .i64) 3 w' w.heap.size (fun _ => True) v0_ r ∧ Below w.heap.size w w' := by
 have HR0 := Aside0.mk hr0
 have HC0 := Aside0.mk hc0
 clear hr0 hc0
 have HB := Aside0.mk (Below.refl w.heap.size w)
 have H : ((impl_OrderValid.f k l0 (l0.length : Int)).bind fun t272 => (if t272 = true then (if 0 ≤ (l0.length : Int) then (if ((l0.length : Int) : Int).toNat ≤ 35184372088832 then (impl_OrderBack.l0 k (List.replicate ((l0.length : Int) : Int).toNat 0) l0 (l0.length : Int) 0) else (none)) else (none)) else (some ([] : List Int)))) = some r := h
 clear h
 replace H := Option.bind_eq_some_iff.mp H
 obtain ⟨t272, A20, H⟩ := H
 replace H : (if t272 = true then (if 0 ≤ (l0.length : Int) then (if ((l0.length : Int) : Int).toNat ≤ 35184372088832 then (impl_OrderBack.l0 k (List.replicate ((l0.length : Int) : Int).toNat 0) l0 (l0.length : Int) 0) else (none)) else (none)) else (some ([] : List Int))) = some r := H
 have A2 := Aside0.mk A20
 clear A20
 by_cases c3 : t272 = true
 ·subst c3
  have H1 : (if 0 ≤ (l0.length : Int) then (if ((l0.length : Int) : Int).toNat ≤ 35184372088832 then (impl_OrderBack.l0 k (List.replicate ((l0.length : Int) : Int).toNat 0) l0 (l0.length : Int) 0) else (none)) else (none)) = some r := by rw [if_pos rfl] at H; exact H
  clear H
  have H := H1
  clear H1
  by_cases c4 : 0 ≤ (l0.length : Int)
  ·rw [if_pos c4] at H
   have c4b0 := eq_true c4
   have c4b1 : decide (0 ≤ (l0.length : Int)) = true := decide_eq_true c4
   clear c4
   by_cases c5 : ((l0.length : Int) : Int).toNat ≤ 35184372088832
   ·rw [if_pos c5] at H
    have c5b0 := eq_true c5
    have c5b1 : decide (((l0.length : Int) : Int).toNat ≤ 35184372088832) = true := decide_eq_true c5
    clear c5
    obtain ⟨y273, hy273⟩ : ∃ y_ : List Int, y_ = (List.replicate ((l0.length : Int) : Int).toNat 0) := ⟨_, rfl⟩
    replace H : (impl_OrderBack.l0 k y273 l0 (l0.length : Int) 0) = some r := by first | (rw [hy273]; with_reducible exact H) | (have H2_ := (Option.bind_some _ _).symm.trans H; rw [hy273]; with_reducible exact H2_) | (have H2_ := (Option.bind_some _ _).symm.trans H; with_reducible exact H2_) | with_reducible exact H | (rw [hy273]; exact H) | exact H
    have Ny273 := Aside0.mk hy273
    clear hy273
    have H' := Aside0.mk H
    clear H
    go_enter Try.func31, Try.ntmps31
    go_wp2_with (first | ((with_reducible refine gate_callee (f := 35) rfl ?_); refine goesL_ (some 9) rfl rfl Try.func35 (by kernel_rfl) rfl #[.slice A0 l0.length c0, .int .i64 (l0.length : Int)] rfl lmB ?_; (with_reducible refine (impl_OrderValid.calls k _ _ l0 (l0.length : Int) true _ ?side1 ?side2 A2.out).mono ?_); (case side1 => exact kcR HR0.out); (case side2 => exact HC0.out); rintro e w' ⟨rfl, ⟨nd, rfl⟩⟩; refine ⟨_, rfl, ?_⟩) | ((with_reducible refine gate_dst (N := 13) rfl ?_); refine Kd.R_make (Kd.int .i64) _ 3 rfl (N := 13) rfl 38 _ _ rfl (l0.length : Int) rfl rfl Try.underlying38 (.int .i64 0) 8 info3 rfl (by decide) (by omega) 0 (ok := fun _ => True) (okp := fun _ => True) rfl (fun _ hk => hk) trivial (oda) (Nat.le_trans (Nat.mul_le_mul_right _ (oda : (l0.length : Int).toNat ≤ 35184372088832)) (by omega)) (Below.refl _ _) (Nat.le_refl _) ?_; intro v274 w6 ho7 hb hg_ hnew_; clear hg_ hnew_; (first | rw [← Ny273.out] at ho7 | (simp only [Int.reduceToNat] at ho7; rw [← Ny273.out] at ho7)); have n0_ := Aside0.mk (Kd.R_lower ho7 (below_size hbB)); have n1_ := Aside0.mk (below_step hbB hb); clear HB; have HO275 := n0_; have HB := n1_; clear n0_ n1_; clear hb ho7))
    go_loopg [16] k (fun kq v16 w' => ∃ (x3_1 : List Int) (x16_1 : Int), v16 = .int .i64 x16_1 ∧ Aside0 (impl_OrderBack.l0 kq x3_1 l0 (l0.length : Int) x16_1 = some r) ∧ Aside0 (kq ≤ k) ∧ Aside0 (Kd.R (Kd.int .i64) 3 w' w.heap.size (fun _ => True) v274 x3_1) ∧ Aside0 (Below w.heap.size w w'))
    case atStart => exact ⟨(y273), (0), rsd, H', ⟨Nat.le_refl _⟩, ⟨rvR HO275.out⟩, ⟨hbB⟩⟩
    case round =>
     clear H'
     try clear p2
     try clear c3
     try clear c4
     try clear c4b0
     try clear c4b1
     try clear c5
     try clear c5b0
     try clear c5b1
     obtain ⟨x3_1, x16_1, rfl, HA, HK1, HO_3, HB⟩ := hrel
     cases gk with
     | zero => exact absurd HA.out (by simp [impl_OrderBack.l0])
     | succ k1 =>
      have H := HA.out
      clear HA
      simp only [impl_OrderBack.l0] at H
      by_cases c8 : x16_1 < (l0.length : Int)
      ·rw [if_pos c8] at H
       have c8b0 : decide (x16_1 < (l0.length : Int)) = true := decide_eq_true c8
       clear c8
       by_cases c9 : 0 ≤ x16_1
       ·rw [if_pos c9] at H
        have c9b0 : decide (0 ≤ x16_1) = true := decide_eq_true c9
        clear c9
        by_cases c10 : x16_1 < (l0.length : Int)
        ·rw [if_pos c10] at H
         have c10b0 : decide (x16_1 < (l0.length : Int)) = true := decide_eq_true c10
         clear c10
         by_cases c11 : 0 ≤ (rd l0 x16_1)
         ·rw [if_pos c11] at H
          have c11b0 : decide (0 ≤ (rd l0 x16_1)) = true := decide_eq_true c11
          clear c11
          by_cases c12 : (rd l0 x16_1) < (x3_1.length : Int)
          ·rw [if_pos c12] at H
           have c12b0 : decide ((rd l0 x16_1) < (x3_1.length : Int)) = true := decide_eq_true c12
           clear c12
           obtain ⟨y277, hy277⟩ : ∃ y_ : List Int, y_ = (x3_1.set ((rd l0 x16_1) : Int).toNat x16_1) := ⟨_, rfl⟩
           replace H : (impl_OrderBack.l0 k1 y277 l0 (l0.length : Int) (wrap64 (x16_1 + 1))) = some r := by first | (rw [hy277]; with_reducible exact H) | (have H2_ := (Option.bind_some _ _).symm.trans H; rw [hy277]; with_reducible exact H2_) | (have H2_ := (Option.bind_some _ _).symm.trans H; with_reducible exact H2_) | with_reducible exact H | (rw [hy277]; exact H) | exact H
           have Ny277 := Aside0.mk hy277
           clear hy277
           have H' := Aside0.mk H
           clear H
           have p276 : 0 ≤ (x16_1 : Int) := oda
           have q276 : x16_1 < (l0.length : Int) := oda
           obtain ⟨ad276, e276, hx276_0⟩ := Kd.at_int HR0.out x16_1 p276 q276
           cases e276
           try replace hx276_0 := bct HB.out hx276_0
           replace p276 := eq_true p276
           replace q276 := eq_true q276
           have p13 : 0 ≤ ((rd l0 x16_1) : Int) := oda
           have q13 : ((rd l0 x16_1) : Int) < ((x3_1.length : Int) : Int) := oda
           obtain ⟨go13, co13, eo13, gb13, gl13, cl13, HG13⟩ := Kd.R_form HO_3.out (by omega)
           (first | cases eo13 | (injection eo13 with ea_ en_ ec_; (first | subst ea_ | (injection ea_ with ea_; subst ea_)); subst ec_; clear en_))
           have GB13 := Aside0.mk gb13
           have GG13 := Aside0.mk HG13
           clear gb13 gl13 HG13
           obtain ⟨hx13_0, hf13_0⟩ := Kd.R_celln 0 HO_3.out ((rd l0 x16_1) : Int) p13 q13
           replace p13 := eq_true p13
           replace q13 := eq_true q13
           have HP14 := Kd.R_putg HO_3.out ((rd l0 x16_1) : Int) x16_1
           go_wp2_with (first | ((with_reducible refine gate_store (t := 3) (p := 24) rfl ?_); refine store_event (t := 3) (p := 24) (v := ?vo_w15) (w1 := (wr.setCell ⟨go13, ((rd l0 x16_1) : Int).toNat, none⟩ (.int .i64 x16_1))) ?hg ?ho ?hn ?hr ?_; (case ho => rfl); (case hg => rfl); (case hn => rfl); (case hr => first | (go_simp; done) | (go_simp; rfl)); intro w15 hw; have hg : wr.grownBy w15 (some go13) := (by rw [hw]; exact HP14.2); have hp_ : Kd.R (Kd.int .i64) 3 w15 w.heap.size (fun _ => True) (.slice (some ⟨go13, 0, none⟩) x3_1.length co13) y277 := (by rw [hw, Ny277.out]; exact HP14.1); clear HP14; have n0_ := Aside0.mk (hp_); have n1_ := Aside0.mk ((by rw [hw]; exact below_set (HB.out) GB13.out : Below w.heap.size w w15)); clear HO_3; clear HB; have HO_3 := n0_; have HB := n1_; clear n0_ n1_; clear hg hw hp_))
           go_roundg k1
           case measure => have := HK1.out; omega
           case rel => exact ⟨(y277), (wrap64 (x16_1 + 1)), rsd, H', ⟨by have := HK1.out; omega⟩, ⟨rvR HO_3.out⟩, ⟨hbB⟩⟩
          ·rw [if_neg c12] at H
           exact absurd H (by simp)
         ·rw [if_neg c11] at H
          exact absurd H (by simp)
        ·rw [if_neg c10] at H
         exact absurd H (by simp)
       ·rw [if_neg c9] at H
        exact absurd H (by simp)
      ·rw [if_neg c8] at H
       have c8b0 : decide (x16_1 < (l0.length : Int)) = false := decide_eq_false c8
       clear c8
       replace H := Option.bind_eq_some_iff.mp H
       obtain ⟨t278, A160, H⟩ := H
       replace H : (some t278) = some r := H
       have A16 := Aside0.mk A160
       clear A160
       obtain rfl := Option.some.inj H
       obtain ⟨Ao17, co17, eo17⟩ := Kd.R_slice HO_3.out
       subst eo17
       go_wp2_with (first | ((with_reducible refine gate_callee (f := 70) rfl ?_); refine goesL_ (some 27) rfl rfl Try.func70 (by kernel_rfl) rfl #[.slice Ao17 x3_1.length co17] rfl lmB ?_; (with_reducible refine (impl_clone_int.calls _ _ x3_1 t278 _ ?side1 ?side2 A16.out).mono ?_); (case side1 => exact kcR (Kd.R_reads' HO_3.out).2.2); (case side2 => exact (Kd.R_reads' HO_3.out).2.1); rintro e w18 ⟨v279, rfl, ho0, hb⟩; refine ⟨_, rfl, ?_⟩; have n0_ := Aside0.mk (Kd.R_elder' (rvR HO_3.out) (Kd.R_base ho0) hb); have n1_ := Aside0.mk (Kd.R_lower (Kd.R_new' ho0 (Kd.R_lt (rvR HO_3.out))) (below_size hbB)); have n2_ := Aside0.mk (below_step hbB hb); clear HO_3; clear HB; have HO_3 := n0_; have HO280 := n1_; have HB := n2_; clear n0_ n1_ n2_; (try clear hb); (try clear hb2); (try clear hk); (try clear hi); (try clear ho0)))
       go_ret
       exact ⟨_, ers, by (with_reducible repeat first | apply rvA | apply rvN | apply rvD); exact Kd.R_mono HO280.out (fun _ hk => trivial), hbB⟩
   ·rw [if_neg c5] at H
    exact absurd H (by simp)
  ·rw [if_neg c4] at H
   exact absurd H (by simp)
 ·replace c3 := Bool.eq_false_iff.mpr c3
  subst c3
  have H1 : (some ([] : List Int)) = some r := by rw [if_neg (show ¬ (false = true) by decide)] at H; exact H
  clear H
  have H := H1
  clear H1
  obtain rfl := Option.some.inj H
  go_enter Try.func31, Try.ntmps31
  go_wp2_with (first | ((with_reducible refine gate_callee (f := 35) rfl ?_); refine goesL_ (some 9) rfl rfl Try.func35 (by kernel_rfl) rfl #[.slice A0 l0.length c0, .int .i64 (l0.length : Int)] rfl lmB ?_; (with_reducible refine (impl_OrderValid.calls k _ _ l0 (l0.length : Int) false _ ?side1 ?side2 A2.out).mono ?_); (case side1 => exact kcR HR0.out); (case side2 => exact HC0.out); rintro e w' ⟨rfl, ⟨nd, rfl⟩⟩; refine ⟨_, rfl, ?_⟩))
  go_ret
  exact ⟨_, ers, by first | exact Kd.R_nil _ _ _ _ _ | exact Kd.N_nil _ _ _ _ _ | exact Kd.V_nil _ _ _ _ _ | exact Kd.Q_nil _ _ _ _ _ | exact Kd.S_nil _ _ _ _ _, hbB⟩

/-! ### spec_l1In: function 74 -/
def spec_l1In.f (a0 : Int) (a1 : Int) (a2 : Int) : Option (Bool) := if a0 ≥ a1 then (some (decide (a0 ≤ a2))) else (some false)
set_option maxHeartbeats 8000000 in
set_option maxRecDepth 100000 in
theorem spec_l1In.calls (a0 : Int) (a1 : Int) (a2 : Int) (r : Bool) (w : World) (h : spec_l1In.f a0 a1 a2 = some r) :
  Calls Try.prog 74 #[.int .i64 a0, .int .i64 a1, .int .i64 a2] w fun e w' => e = .returned (.bool r) ∧ Drawn0 w w' := by
 have H : (if a0 ≥ a1 then (some (decide (a0 ≤ a2))) else (some false)) = some r := h
 clear h
 by_cases c4 : a0 ≥ a1
 ·rw [if_pos c4] at H
  have c4b0 : decide (a1 ≤ a0) = true := decide_eq_true c4
  clear c4
  obtain rfl := Option.some.inj H
  go_enter Try.func74, Try.ntmps74
  go_wp2
  go_ret
  exact ⟨by first | rfl | (simp; done) | (simp [*]; done), by repeat (first | exact Drawn0.refl _ | apply Drawn0.step)⟩
 ·rw [if_neg c4] at H
  have c4b0 : decide (a1 ≤ a0) = false := decide_eq_false c4
  clear c4
  obtain rfl := Option.some.inj H
  go_enter Try.func74, Try.ntmps74
  go_wp2
  go_ret
  exact ⟨by first | rfl | (simp; done) | (simp [*]; done), by repeat (first | exact Drawn0.refl _ | apply Drawn0.step)⟩

/-! ### spec_l2Has: function 122 -/
def spec_l2Has.l0 : Nat → List Int → Int → Int → Option (Bool)
 | 0, _, _, _ => none
 | k + 1, x0, x1, x5 => if x5 < (x0.length : Int) then (if 0 ≤ x5 then (if (rd x0 x5) = x1 then (some true) else (spec_l2Has.l0 k x0 x1 (wrap64 (x5 + 1)))) else (none)) else (some false)
def spec_l2Has.f (k : Nat) (l0 : List Int) (a1 : Int) : Option (Bool) := spec_l2Has.l0 k l0 a1 0
theorem spec_l2Has.mono_l : ∀ k, (∀ y0 y1 y2, LeO (spec_l2Has.l0 k y0 y1 y2) (spec_l2Has.l0 (k + 1) y0 y1 y2))
 | 0 => fun _ _ _ r h => by simp [spec_l2Has.l0] at h
 | k + 1 => by
  have ih0 := spec_l2Has.mono_l k
  ·intro y0 y1 y2
   unfold spec_l2Has.l0
   repeat' first
   | (with_reducible exact ih0 _ _ _)
   | (with_reducible exact LeO.refl _)
   | (with_reducible exact LeO.none _)
   | (with_reducible refine LeO.ite ?_ ?_)
   | (with_reducible refine LeO.bind ?_ (fun _ => ?_))
theorem spec_l2Has.mono : ∀ a0 a1 k, LeO (spec_l2Has.f k a0 a1) (spec_l2Has.f (k + 1) a0 a1) := by
 intro a0 a1 k
 have ih0 := spec_l2Has.mono_l k
 unfold spec_l2Has.f
 repeat' first
   | (with_reducible exact ih0 _ _ _)
   | (with_reducible exact LeO.refl _)
   | (with_reducible exact LeO.none _)
   | (with_reducible refine LeO.ite ?_ ?_)
   | (with_reducible refine LeO.bind ?_ (fun _ => ?_))
set_option maxHeartbeats 8000000 in
set_option maxRecDepth 100000 in
theorem spec_l2Has.calls (k : Nat) (A0 : Option Addr) (c0 : Nat) (l0 : List Int) (a1 : Int) (r : Bool) (w : World) (hr0 : Kd.C (Kd.int .i64) w A0 l0.length l0) (hc0 : l0.length ≤ c0) (h : spec_l2Has.f k l0 a1 = some r) :
  Calls Try.prog 122 #[.slice A0 l0.length c0, .int .i64 a1] w fun e w' => e = .returned (.bool r) ∧ Drawn0 w w' := by
 have HR0 := Aside0.mk hr0
 have HC0 := Aside0.mk hc0
 clear hr0 hc0
 have H : (spec_l2Has.l0 k l0 a1 0) = some r := h
 clear h
 have H' := Aside0.mk H
 clear H
 go_enter Try.func122, Try.ntmps122
 go_wp2
 go_loopg [5] k (fun kq v5 w' => ∃ (x5_1 : Int), v5 = .int .i64 x5_1 ∧ Aside0 (spec_l2Has.l0 kq l0 a1 x5_1 = some r) ∧ Aside0 (kq ≤ k) ∧ Drawn0 w w')
 case atStart => exact ⟨(0), rsd, H', ⟨Nat.le_refl _⟩, by repeat (first | exact Drawn0.refl _ | apply Drawn0.step)⟩
 case round =>
  clear H'
  try clear c1
  try clear p2
  obtain ⟨x5_1, rfl, HA, HK1, ⟨m1, rfl⟩⟩ := hrel
  cases gk with
  | zero => exact absurd HA.out (by simp [spec_l2Has.l0])
  | succ k1 =>
   have H := HA.out
   clear HA
   simp only [spec_l2Has.l0] at H
   by_cases c3 : x5_1 < (l0.length : Int)
   ·rw [if_pos c3] at H
    have c3b0 : decide (x5_1 < (l0.length : Int)) = true := decide_eq_true c3
    clear c3
    by_cases c4 : 0 ≤ x5_1
    ·rw [if_pos c4] at H
     have c4b0 : decide (0 ≤ x5_1) = true := decide_eq_true c4
     clear c4
     by_cases c5 : (rd l0 x5_1) = a1
     ·rw [if_pos c5] at H
      have c5b0 : ((rd l0 x5_1) == a1) = true := beq_iff_eq.mpr c5
      have c5b1 : ((rd l0 x5_1) != a1) = false := bne_eq_false_iff_eq.mpr c5
      clear c5
      obtain rfl := Option.some.inj H
      have p281 : 0 ≤ (x5_1 : Int) := oda
      have q281 : x5_1 < (l0.length : Int) := oda
      obtain ⟨ad281, e281, hx281_0⟩ := Kd.at_int HR0.out x5_1 p281 q281
      cases e281
      replace p281 := eq_true p281
      replace q281 := eq_true q281
      go_wp2
      go_ret
      exact ⟨by first | rfl | (simp; done) | (simp [*]; done), by repeat (first | exact Drawn0.refl _ | apply Drawn0.step)⟩
     ·rw [if_neg c5] at H
      have c5b0 : ((rd l0 x5_1) == a1) = false := beq_eq_false_iff_ne.mpr c5
      have c5b1 : ((rd l0 x5_1) != a1) = true := bne_iff_ne.mpr c5
      have H' := Aside0.mk H
      clear H
      have p281 : 0 ≤ (x5_1 : Int) := oda
      have q281 : x5_1 < (l0.length : Int) := oda
      obtain ⟨ad281, e281, hx281_0⟩ := Kd.at_int HR0.out x5_1 p281 q281
      cases e281
      replace p281 := eq_true p281
      replace q281 := eq_true q281
      go_wp2
      go_roundg k1
      case measure => have := HK1.out; omega
      case rel => exact ⟨(wrap64 (x5_1 + 1)), rsd, H', ⟨by have := HK1.out; omega⟩, by repeat (first | exact Drawn0.refl _ | apply Drawn0.step)⟩
    ·rw [if_neg c4] at H
     exact absurd H (by simp)
   ·rw [if_neg c3] at H
    have c3b0 : decide (x5_1 < (l0.length : Int)) = false := decide_eq_false c3
    clear c3
    obtain rfl := Option.some.inj H
    go_wp2
    go_ret
    exact ⟨by first | rfl | (simp; done) | (simp [*]; done), by repeat (first | exact Drawn0.refl _ | apply Drawn0.step)⟩

end Go.Proofs.Ytpcckoljocpchaa.QFnReorderBack
