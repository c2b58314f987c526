-- Written by a program of this session (mk.py). Lean checks it.
import Derived.Test.YtpcckoljocpchaaQFnReorderBackx0
namespace Go.Proofs.Ytpcckoljocpchaa.QFnReorderBack
open Go.RowKit Go.Proofs.YtpcckoljocpchaaW.PrintWords Go.Proofs.YtpcckoljocpchaaW.PrintLast Go.Proofs.YtpcckoljocpchaaW.PrintMore
attribute [local go_sem] max2_int min2_int max_two min_two max_three min_three max_four min_four   -- for this text's walks alone
set_option linter.unusedVariables false
set_option linter.unusedSimpArgs false

/-! ### laws_wcInts: function 21 -/
def laws_wcInts.l0 : Nat → List Int → List Int → Int → Int → Option (Bool)
 | 0, _, _, _, _ => none
 | k + 1, x1, x12, x13, x14 => if x14 < x13 then (if 0 ≤ x14 then (if x14 < (x12.length : Int) then (if x14 < (x1.length : Int) then (if (rd x1 x14) = (rd x12 x14) then (laws_wcInts.l0 k x1 x12 x13 (wrap64 (x14 + 1))) else (some false)) else (none)) else (none)) else (none)) else (some true)
def laws_wcInts.f (k : Nat) (l0 : List Int) (l1 : List Int) : Option (Bool) := if (l0.length : Int) = (l1.length : Int) then (laws_wcInts.l0 k l1 l0 (l0.length : Int) 0) else (some false)
theorem laws_wcInts.mono_l : ∀ k, (∀ y0 y1 y2 y3, LeO (laws_wcInts.l0 k y0 y1 y2 y3) (laws_wcInts.l0 (k + 1) y0 y1 y2 y3))
 | 0 => fun _ _ _ _ r h => by simp [laws_wcInts.l0] at h
 | k + 1 => by
  have ih0 := laws_wcInts.mono_l k
  ·intro y0 y1 y2 y3
   unfold laws_wcInts.l0
   repeat' first
   | (with_reducible exact ih0 _ _ _ _)
   | (with_reducible exact LeO.refl _)
   | (with_reducible exact LeO.none _)
   | (with_reducible refine LeO.ite ?_ ?_)
   | (with_reducible refine LeO.bind ?_ (fun _ => ?_))
theorem laws_wcInts.mono : ∀ a0 a1 k, LeO (laws_wcInts.f k a0 a1) (laws_wcInts.f (k + 1) a0 a1) := by
 intro a0 a1 k
 have ih0 := laws_wcInts.mono_l k
 unfold laws_wcInts.f
 repeat' first
   | (with_reducible exact ih0 _ _ _ _)
   | (with_reducible exact LeO.refl _)
   | (with_reducible exact LeO.none _)
   | (with_reducible refine LeO.ite ?_ ?_)
   | (with_reducible refine LeO.bind ?_ (fun _ => ?_))
set_option maxHeartbeats 8000000 in
set_option maxRecDepth 100000 in
theorem laws_wcInts.calls (k : Nat) (A0 : Option Addr) (c0 : Nat) (l0 : List Int) (A1 : Option Addr) (c1 : Nat) (l1 : List Int) (r : Bool) (w : World) (hr0 : Kd.C (Kd.int .i64) w A0 l0.length l0) (hc0 : l0.length ≤ c0) (hr1 : Kd.C (Kd.int .i64) w A1 l1.length l1) (hc1 : l1.length ≤ c1) (h : laws_wcInts.f k l0 l1 = some r) :
  Calls Try.prog 21 #[.slice A0 l0.length c0, .slice A1 l1.length c1] w fun e w' => e = .returned (.bool r) ∧ Drawn0 w w' := by
 have HR0 := Aside0.mk hr0
 have HC0 := Aside0.mk hc0
 clear hr0 hc0
 have HR1 := Aside0.mk hr1
 have HC1 := Aside0.mk hc1
 clear hr1 hc1
 have H : (if (l0.length : Int) = (l1.length : Int) then (laws_wcInts.l0 k l1 l0 (l0.length : Int) 0) else (some false)) = some r := h
 clear h
 by_cases c3 : (l0.length : Int) = (l1.length : Int)
 ·rw [if_pos c3] at H
  have c3b0 : ((l0.length : Int) == (l1.length : Int)) = true := beq_iff_eq.mpr c3
  have c3b1 : ((l0.length : Int) != (l1.length : Int)) = false := bne_eq_false_iff_eq.mpr c3
  have c3b2 : (l0.length == l1.length) = true := by first | simpa using c3 | (simp at c3 ⊢; omega)
  clear c3
  have H' := Aside0.mk H
  clear H
  go_enter Try.func21, Try.ntmps21
  go_wp2
  go_loopg [14] k (fun kq v14 w' => ∃ (x14_1 : Int), v14 = .int .i64 x14_1 ∧ Aside0 (laws_wcInts.l0 kq l1 l0 (l0.length : Int) x14_1 = some r) ∧ Aside0 (kq ≤ k) ∧ Drawn0 w w')
  case atStart => exact ⟨(0), rsd, H', ⟨Nat.le_refl _⟩, by repeat (first | exact Drawn0.refl _ | apply Drawn0.step)⟩
  case round =>
   clear H'
   try clear c1
   try clear c2
   try clear p2
   try clear c3
   try clear c3b0
   try clear c3b1
   try clear c3b2
   obtain ⟨x14_1, rfl, HA, HK1, ⟨m1, rfl⟩⟩ := hrel
   cases gk with
   | zero => exact absurd HA.out (by simp [laws_wcInts.l0])
   | succ k1 =>
    have H := HA.out
    clear HA
    simp only [laws_wcInts.l0] at H
    by_cases c4 : x14_1 < (l0.length : Int)
    ·rw [if_pos c4] at H
     have c4b0 : decide (x14_1 < (l0.length : Int)) = true := decide_eq_true c4
     clear c4
     by_cases c5 : 0 ≤ x14_1
     ·rw [if_pos c5] at H
      have c5b0 : decide (0 ≤ x14_1) = true := decide_eq_true c5
      clear c5
      by_cases c6 : x14_1 < (l0.length : Int)
      ·rw [if_pos c6] at H
       have c6b0 : decide (x14_1 < (l0.length : Int)) = true := decide_eq_true c6
       clear c6
       by_cases c7 : x14_1 < (l1.length : Int)
       ·rw [if_pos c7] at H
        have c7b0 : decide (x14_1 < (l1.length : Int)) = true := decide_eq_true c7
        clear c7
        by_cases c8 : (rd l1 x14_1) = (rd l0 x14_1)
        ·rw [if_pos c8] at H
         have c8b0 : ((rd l1 x14_1) == (rd l0 x14_1)) = true := beq_iff_eq.mpr c8
         have c8b1 : ((rd l1 x14_1) != (rd l0 x14_1)) = false := bne_eq_false_iff_eq.mpr c8
         clear c8
         have H' := Aside0.mk H
         clear H
         have p101 : 0 ≤ (x14_1 : Int) := oda
         have q101 : x14_1 < (l0.length : Int) := oda
         obtain ⟨ad101, e101, hx101_0⟩ := Kd.at_int HR0.out x14_1 p101 q101
         cases e101
         replace p101 := eq_true p101
         replace q101 := eq_true q101
         have p102 : 0 ≤ (x14_1 : Int) := oda
         have q102 : x14_1 < (l1.length : Int) := oda
         obtain ⟨ad102, e102, hx102_0⟩ := Kd.at_int HR1.out x14_1 p102 q102
         cases e102
         replace p102 := eq_true p102
         replace q102 := eq_true q102
         go_wp2
         go_roundg k1
         case measure => have := HK1.out; omega
         case rel => exact ⟨(wrap64 (x14_1 + 1)), rsd, H', ⟨by have := HK1.out; omega⟩, by repeat (first | exact Drawn0.refl _ | apply Drawn0.step)⟩
        ·rw [if_neg c8] at H
         have c8b0 : ((rd l1 x14_1) == (rd l0 x14_1)) = false := beq_eq_false_iff_ne.mpr c8
         have c8b1 : ((rd l1 x14_1) != (rd l0 x14_1)) = true := bne_iff_ne.mpr c8
         obtain rfl := Option.some.inj H
         have p101 : 0 ≤ (x14_1 : Int) := oda
         have q101 : x14_1 < (l0.length : Int) := oda
         obtain ⟨ad101, e101, hx101_0⟩ := Kd.at_int HR0.out x14_1 p101 q101
         cases e101
         replace p101 := eq_true p101
         replace q101 := eq_true q101
         have p102 : 0 ≤ (x14_1 : Int) := oda
         have q102 : x14_1 < (l1.length : Int) := oda
         obtain ⟨ad102, e102, hx102_0⟩ := Kd.at_int HR1.out x14_1 p102 q102
         cases e102
         replace p102 := eq_true p102
         replace q102 := eq_true q102
         go_wp2
         go_ret
         exact ⟨by first | rfl | (simp; done) | (simp [*]; done), by repeat (first | exact Drawn0.refl _ | apply Drawn0.step)⟩
       ·rw [if_neg c7] at H
        exact absurd H (by simp)
      ·rw [if_neg c6] at H
       exact absurd H (by simp)
     ·rw [if_neg c5] at H
      exact absurd H (by simp)
    ·rw [if_neg c4] at H
     have c4b0 : decide (x14_1 < (l0.length : Int)) = false := decide_eq_false c4
     clear c4
     obtain rfl := Option.some.inj H
     go_wp2
     go_ret
     exact ⟨by first | rfl | (simp; done) | (simp [*]; done), by repeat (first | exact Drawn0.refl _ | apply Drawn0.step)⟩
 ·rw [if_neg c3] at H
  have c3b0 : ((l0.length : Int) == (l1.length : Int)) = false := beq_eq_false_iff_ne.mpr c3
  have c3b1 : ((l0.length : Int) != (l1.length : Int)) = true := bne_iff_ne.mpr c3
  have c3b2 : (l0.length == l1.length) = false := by first | simpa using c3 | (simp at c3 ⊢; omega)
  obtain rfl := Option.some.inj H
  go_enter Try.func21, Try.ntmps21
  go_wp2
  go_ret
  exact ⟨by first | rfl | (simp; done) | (simp [*]; done), by repeat (first | exact Drawn0.refl _ | apply Drawn0.step)⟩

/-- A state of type 121 at block g of W; what its slices lead to came in by w0. -/
def IsS121 (w0 W : World) (g : Nat) (f0 : List Int) (f1 : Int) : Prop := ∃ A0 c0, W.heap[g]? = some (.cells #[.slice A0 f0.length c0, .int .i64 f1] 121 (0, 0)) ∧ w0.heap.size ≤ g ∧ Kd.C (Kd.int .u8) w0 A0 f0.length f0
theorem IsS121.grown {w0 W : World} {g : Nat} {f0 : List Int} {f1 : Int} {W1 : World} {row : Option Nat} (h : IsS121 w0 W g f0 f1) (hw : W.grownBy W1 row) (hne : some g ≠ row) : IsS121 w0 W1 g f0 f1 := by
 obtain ⟨A0, c0, hb, hg, hr0⟩ := h
 exact ⟨A0, c0, blk_grown hb hw hne, hg, hr0⟩
theorem IsS121.own_neN {w0 W : World} {g : Nat} {f0 : List Int} {f1 : Int} {α : Type} {d : Kd α} {e : Nat} {base : Nat} {ok : Nat → Prop} {v : Value} {xs : List α} (h : IsS121 w0 W g f0 f1) (ho : Kd.N d e W base ok v xs) (ht : e ≠ 121) : some g ≠ v.ownBlock := by
 obtain ⟨A0, c0, hb, hg, hr0⟩ := h
 exact Kd.N_ne ho hb ht
theorem IsS121.fresh {w0 W : World} {g : Nat} {f0 : List Int} {f1 : Int} (h : IsS121 w0 W g f0 f1) : ∀ k, W.heap.size ≤ k → k ≠ g := by
 obtain ⟨A0, c0, hb, hg, hr0⟩ := h
 exact Kd.freshB hb
theorem IsS121.kept {w0 W : World} {g : Nat} {f0 : List Int} {f1 : Int} {W1 : World} {S : Nat → Prop} (h : IsS121 w0 W g f0 f1) (hk : Kept W W1 S) (hne : ¬ S g) : IsS121 w0 W1 g f0 f1 := by
 obtain ⟨A0, c0, hb, hg, hr0⟩ := h
 exact ⟨A0, c0, blk_kept hb hk hne, hg, hr0⟩
theorem IsS121.below {w0 W : World} {g : Nat} {f0 : List Int} {f1 : Int} {W1 : World} (h : IsS121 w0 W g f0 f1) (hw : Below W.heap.size W W1) : IsS121 w0 W1 g f0 f1 := h.grown (grown_of_below hw none) (by simp)
theorem IsS121.alloc {w0 W : World} {g : Nat} {f0 : List Int} {f1 : Int} (h : IsS121 w0 W g f0 f1) (o : Obj) : IsS121 w0 (W.alloc o) g f0 f1 := h.below (below_alloc (Below.refl _ _) o)
theorem IsS121.drewN {w0 W : World} {g : Nat} {f0 : List Int} {f1 : Int} (h : IsS121 w0 W g f0 f1) (m : Nat) : IsS121 w0 (W.drewN m) g f0 f1 := h
theorem IsS121.drew {w0 W : World} {g : Nat} {f0 : List Int} {f1 : Int} (h : IsS121 w0 W g f0 f1) : IsS121 w0 W.drew g f0 f1 := h
theorem IsS121.at_ {w0 W : World} {g : Nat} {f0 : List Int} {f1 : Int} {w' : World} {m : Nat} (hq : W.drewN m = w') (h : IsS121 w0 W g f0 f1) : IsS121 w0 w' g f0 f1 := by subst hq; exact IsS121.drewN h m
theorem IsS121.apart {w0 W : World} {g : Nat} {f0 : List Int} {f1 : Int} {α : Type} {d : Kd α} {e : Nat} {base : Nat} {ok : Nat → Prop} {v : Value} {xs : List α} (h : IsS121 w0 W g f0 f1) (ho : d.R e W base ok v xs) (ht : ∀ q, q ∈ e :: d.E → q ≠ 121) : d.R e W base (fun k => ok k ∧ k ≠ g) v xs := by
 obtain ⟨A0, c0, hb, hg, hr0⟩ := h
 exact Kd.R_types ho hb ht
theorem IsS121.own_ne {w0 W : World} {g : Nat} {f0 : List Int} {f1 : Int} {α : Type} {d : Kd α} {e : Nat} {base : Nat} {ok : Nat → Prop} {v : Value} {xs : List α} (h : IsS121 w0 W g f0 f1) (ho : d.R e W base ok v xs) (ht : e ≠ 121) : some g ≠ v.ownBlock := by
 obtain ⟨A0, c0, hb, hg, hr0⟩ := h
 exact Kd.R_ne ho hb ht
theorem IsS121.apartQ {w0 W : World} {g : Nat} {f0 : List Int} {f1 : Int} {α : Type} {d : Kd α} {e : Nat} {base : Nat} {ok : Nat → Prop} {v : Value} {xs : List α} (h : IsS121 w0 W g f0 f1) (ho : d.Q e W base ok v xs) (ht : ∀ q, q ∈ e :: d.E → q ≠ 121) : d.Q e W base (fun k => ok k ∧ k ≠ g) v xs := by
 obtain ⟨A0, c0, hb, hg, hr0⟩ := h
 exact Kd.Q_types ho hb ht
theorem IsS121.own_neQ {w0 W : World} {g : Nat} {f0 : List Int} {f1 : Int} {α : Type} {d : Kd α} {e : Nat} {base : Nat} {ok : Nat → Prop} {v : Value} {xs : List α} (h : IsS121 w0 W g f0 f1) (ho : d.Q e W base ok v xs) (ht : e ≠ 121) : some g ≠ v.ownBlock := by
 obtain ⟨A0, c0, hb, hg, hr0⟩ := h
 exact Kd.Q_ne ho hb ht
theorem IsS121.apartS {w0 W : World} {g : Nat} {f0 : List Int} {f1 : Int} {α : Type} {d : Kd α} {e : Nat} {base : Nat} {ok : Nat → Prop} {v : Value} {xs : List α} (h : IsS121 w0 W g f0 f1) (ho : d.S e W base ok v xs) (ht : ∀ q, q ∈ e :: d.E → q ≠ 121) : d.S e W base (fun k => ok k ∧ k ≠ g) v xs := by
 obtain ⟨A0, c0, hb, hg, hr0⟩ := h
 exact Kd.S_types ho hb ht
theorem IsS121.own_neS {w0 W : World} {g : Nat} {f0 : List Int} {f1 : Int} {α : Type} {d : Kd α} {e : Nat} {base : Nat} {ok : Nat → Prop} {v : Value} {xs : List α} (h : IsS121 w0 W g f0 f1) (ho : d.S e W base ok v xs) (ht : e ≠ 121) : some g ≠ v.ownBlock := by
 obtain ⟨A0, c0, hb, hg, hr0⟩ := h
 exact Kd.S_ne ho hb ht
theorem IsS121.lt {w0 W : World} {g : Nat} {f0 : List Int} {f1 : Int} (h : IsS121 w0 W g f0 f1) : g < W.heap.size := by
 obtain ⟨A0, c0, hb, hg, hr0⟩ := h
 exact blk_lt hb
theorem IsS121.ge {w0 W : World} {g : Nat} {f0 : List Int} {f1 : Int} (h : IsS121 w0 W g f0 f1) : w0.heap.size ≤ g := by
 obtain ⟨A0, c0, hb, hg, hr0⟩ := h
 exact hg
theorem IsS121.ne_blk {w0 W : World} {g : Nat} {f0 : List Int} {f1 : Int} {a : Nat} {cs : Array Value} {t : TypeId} {fr : Nat × Nat} (h : IsS121 w0 W g f0 f1) (hb2 : W.heap[a]? = some (.cells cs t fr)) (ht : t ≠ 121) : g ≠ a := by
 obtain ⟨A0, c0, hb, hg, hr0⟩ := h
 rintro rfl
 rw [hb] at hb2
 injection hb2 with hb2
 injection hb2 with _ ht2
 exact ht ht2.symm
theorem IsS121.far {w0 W : World} {g : Nat} {f0 : List Int} {f1 : Int} {p : Addr} (h : IsS121 w0 W g f0 f1) (hne : g ≠ p.block) (u : Value) : IsS121 w0 (W.setCell p u) g f0 f1 := by
 obtain ⟨A0, c0, hb, hg, hr0⟩ := h
 exact ⟨A0, c0, blk_far hb hne u, hg, hr0⟩
theorem cellS121_0 {W : World} {g : Nat} {A0 : Option Addr} {c0 : Nat} {f0 : List Int} {f1 : Int} (h : W.heap[g]? = some (.cells #[.slice A0 f0.length c0, .int .i64 f1] 121 (0, 0))) : W.cell? ⟨g, 0, none⟩ = some (.slice A0 f0.length c0) := (blk_cell h 0).trans rfl
theorem cellS121_1 {W : World} {g : Nat} {A0 : Option Addr} {c0 : Nat} {f0 : List Int} {f1 : Int} (h : W.heap[g]? = some (.cells #[.slice A0 f0.length c0, .int .i64 f1] 121 (0, 0))) : W.cell? ⟨g, 1, none⟩ = some (.int .i64 f1) := (blk_cell h 1).trans rfl
theorem IsS121.set_1 {w0 W : World} {g : Nat} {f0 : List Int} {f1 : Int} (h : IsS121 w0 W g f0 f1) (x : Int) : IsS121 w0 (W.setCell ⟨g, 1, none⟩ (.int .i64 x)) g f0 x := by
 obtain ⟨A0, c0, hb, hg, hr0⟩ := h
 exact ⟨A0, c0, by simpa using blk_set hb 1 (.int .i64 x), hg, hr0⟩
theorem IsS121.new (w0 W : World) (A0 : Option Addr) (c0 : Nat) (f0 : List Int) (f1 : Int) (hB : Below w0.heap.size w0 W) (hr0 : Kd.C (Kd.int .u8) w0 A0 f0.length f0) : IsS121 w0 (W.alloc (.cells #[.slice A0 f0.length c0, .int .i64 f1] 121)) W.heap.size f0 f1 := ⟨A0, c0, by simpa using heap_alloc_new W _, hB.size, hr0⟩

/-! ### spec_l40Open: function 67 -/
def spec_l40Open.f (l0 : List Int) : Option (List Int × Int) := if (l0.length : Int) > 2000 then (if 2000 ≤ (l0.length : Int) then (some (l0.take 2000, 0)) else (none)) else (some (l0, 0))
set_option maxHeartbeats 8000000 in
set_option maxRecDepth 100000 in
theorem spec_l40Open.calls (A0 : Option Addr) (c0 : Nat) (l0 : List Int) (r1 : List Int) (r2 : Int) (w0 w : World) (hB : Below w0.heap.size w0 w) (hr0 : Kd.C (Kd.int .u8) w0 A0 l0.length l0) (hc0 : l0.length ≤ c0) (h : spec_l40Open.f l0 = some (r1, r2)) :
  Calls Try.prog 67 #[.slice A0 l0.length c0] w fun e w' => ∃ g_ : Nat, e = .returned (.pointer (some ⟨g_, 0, none⟩)) ∧ IsS121 w0 w' g_ r1 r2 ∧ Below w0.heap.size w0 w' ∧ Below w.heap.size w w' := by
 have hu121 := Try.underlying121
 have HR0 := Aside0.mk hr0
 have HC0 := Aside0.mk hc0
 clear hr0 hc0
 have HBW := Aside0.mk (Below.refl w.heap.size w)
 have HW0 := Aside0.mk hB.size
 have HB := Aside0.mk hB
 clear hB
 have H : (if (l0.length : Int) > 2000 then (if 2000 ≤ (l0.length : Int) then (some (l0.take 2000, 0)) else (none)) else (some (l0, 0))) = some (r1, r2) := h
 clear h
 by_cases c2 : (l0.length : Int) > 2000
 ·rw [if_pos c2] at H
  have c2b0 : decide (2000 < (l0.length : Int)) = true := decide_eq_true c2
  have c2b1 : decide (2000 < l0.length) = true := decide_eq_true (by omega)
  clear c2
  by_cases c3 : 2000 ≤ (l0.length : Int)
  ·rw [if_pos c3] at H
   have c3b0 := eq_true c3
   have c3b1 : decide (2000 ≤ (l0.length : Int)) = true := decide_eq_true c3
   clear c3
   simp only [Option.some.injEq, Prod.mk.injEq] at H
   obtain ⟨rfl, rfl⟩ := H
   obtain ⟨i04, hi04, _, hsz4, _⟩ := info_parts info5
   obtain ⟨hcut4, hA4, hC4⟩ := print_take_of (P := Try.prog) (Value.int .u8) 0 35 5 .i64 Try.underlying35 hi04 hsz4 A0 c0 l0 2000 (by omega) (oda) HC0.out
   have HR103 := Aside0.mk (Kd.C_of_reads (h1 := fun _ => rfl) (hA4 _ (Kd.reads_of_C HR0.out)))
   have HC103 := Aside0.mk hC4
   clear hA4 hC4 hi04 hsz4
   go_enter Try.func67, Try.ntmps67
   go_wp2_with (first | ((with_reducible refine gate_dst (N := 10) rfl ?_); refine box_event ?hg (N := 10) ?hd (cs := #[.slice A0 (l0.take 2000).length c0, .int .i64 0]) (t := 121) ?hr ?_; (case hd => rfl); (case hg => rfl); (case hr => first | (go_simp; done) | (go_simp; rfl)); intro gb104 hg w5 hbox hb; have n0_ := Aside0.mk (below_step HBW.out hb); have n1_ := Aside0.mk (below_step hbB hb); have n2_ := Aside0.mk (hbox); have n3_ := Aside0.mk ((by rw [hg]; exact (below_size (by repeat (first | (with_reducible first | exact HBW.out | apply bwA | apply bwN | apply bwD) | exact HBW.out))) : w.heap.size ≤ gb104)); have n4_ := Aside0.mk ((Nat.le_trans HW0.out (by rw [hg]; exact (below_size (by repeat (first | (with_reducible first | exact HBW.out | apply bwA | apply bwN | apply bwD) | exact HBW.out))) : w.heap.size ≤ gb104) : w0.heap.size ≤ gb104)); clear HBW; clear HB; have HBW := n0_; have HB := n1_; have BK104 := n2_; have GW104 := n3_; have GE104 := n4_; clear n0_ n1_ n2_ n3_ n4_; clear hb hbox hg))
   go_ret
   exact ⟨_, rfl, (show IsS121 w0 _ gb104 (l0.take 2000) 0 from ⟨_, _, by (with_reducible repeat first | apply bkN | apply bkD | apply bkA); exact BK104.out, GE104.out, HR103.out⟩), hbC, by repeat (first | (with_reducible first | exact HBW.out | apply bwA | apply bwN | apply bwD | refine below_set ?_ GW104.out) | exact HBW.out)⟩
  ·rw [if_neg c3] at H
   exact absurd H (by simp)
 ·rw [if_neg c2] at H
  have c2b0 : decide (2000 < (l0.length : Int)) = false := decide_eq_false c2
  have c2b1 : decide (2000 < l0.length) = false := decide_eq_false (by omega)
  clear c2
  simp only [Option.some.injEq, Prod.mk.injEq] at H
  obtain ⟨rfl, rfl⟩ := H
  go_enter Try.func67, Try.ntmps67
  go_wp2_with (first | ((with_reducible refine gate_dst (N := 10) rfl ?_); refine box_event ?hg (N := 10) ?hd (cs := #[.slice A0 l0.length c0, .int .i64 0]) (t := 121) ?hr ?_; (case hd => rfl); (case hg => rfl); (case hr => first | (go_simp; done) | (go_simp; rfl)); intro gb105 hg w6 hbox hb; have n0_ := Aside0.mk (below_step HBW.out hb); have n1_ := Aside0.mk (below_step hbB hb); have n2_ := Aside0.mk (hbox); have n3_ := Aside0.mk ((by rw [hg]; exact (below_size (by repeat (first | (with_reducible first | exact HBW.out | apply bwA | apply bwN | apply bwD) | exact HBW.out))) : w.heap.size ≤ gb105)); have n4_ := Aside0.mk ((Nat.le_trans HW0.out (by rw [hg]; exact (below_size (by repeat (first | (with_reducible first | exact HBW.out | apply bwA | apply bwN | apply bwD) | exact HBW.out))) : w.heap.size ≤ gb105) : w0.heap.size ≤ gb105)); clear HBW; clear HB; have HBW := n0_; have HB := n1_; have BK105 := n2_; have GW105 := n3_; have GE105 := n4_; clear n0_ n1_ n2_ n3_ n4_; clear hb hbox hg))
  go_ret
  exact ⟨_, rfl, (show IsS121 w0 _ gb105 l0 0 from ⟨_, _, by (with_reducible repeat first | apply bkN | apply bkD | apply bkA); exact BK105.out, GE105.out, HR0.out⟩), hbC, by repeat (first | (with_reducible first | exact HBW.out | apply bwA | apply bwN | apply bwD | refine below_set ?_ GW105.out) | exact HBW.out)⟩

/-! ### spec_l40Rd_pick: function 79 -/
def spec_l40Rd_pick.j0 : Nat → Int → Bool → List Int → Int → Option (Int × Int)
 | 0, _, _, _, _ => none
 | k + 1, x1, x24, x1000, x1001 => if x24 = true then (some (0, x1001)) else (if (wrap64 (x1001 - 1)) < (x1000.length : Int) then (if 0 ≤ (wrap64 (x1001 - 1)) then (if x1 = 0 then (none) else (some (Int.tmod (wrap64 (rd x1000 (wrap64 (x1001 - 1)))) x1, x1001))) else (none)) else (if (x1000.length : Int) = 0 then (none) else (if 0 ≤ (Int.tmod (wrap64 (x1001 - 1)) (x1000.length : Int)) then (if (Int.tmod (wrap64 (x1001 - 1)) (x1000.length : Int)) < (x1000.length : Int) then (if 0 ≤ (Int.tmod (wrap64 ((wrap64 ((wrap64 (x1001 - 1)) * 7)) + 3)) (x1000.length : Int)) then (if (Int.tmod (wrap64 ((wrap64 ((wrap64 (x1001 - 1)) * 7)) + 3)) (x1000.length : Int)) < (x1000.length : Int) then (if x1 = 0 then (none) else (some (Int.tmod (Go.bits .xor .i64 (wrap64 ((wrap64 ((wrap64 ((wrap64 ((wrap64 (rd x1000 (Int.tmod (wrap64 (x1001 - 1)) (x1000.length : Int)))) * 131)) + (wrap64 ((wrap64 (rd x1000 (Int.tmod (wrap64 ((wrap64 ((wrap64 (x1001 - 1)) * 7)) + 3)) (x1000.length : Int)))) * 1117)))) + (wrap64 ((wrap64 (x1001 - 1)) * 29)))) + (wrap64 ((wrap64 (Int.tdiv (wrap64 (x1001 - 1)) (x1000.length : Int))) * 53)))) (wrap64 (Int.tdiv (wrap64 ((wrap64 ((wrap64 ((wrap64 ((wrap64 (rd x1000 (Int.tmod (wrap64 (x1001 - 1)) (x1000.length : Int)))) * 131)) + (wrap64 ((wrap64 (rd x1000 (Int.tmod (wrap64 ((wrap64 ((wrap64 (x1001 - 1)) * 7)) + 3)) (x1000.length : Int)))) * 1117)))) + (wrap64 ((wrap64 (x1001 - 1)) * 29)))) + (wrap64 ((wrap64 (Int.tdiv (wrap64 (x1001 - 1)) (x1000.length : Int))) * 53)))) 64))) x1, x1001))) else (none)) else (none)) else (none)) else (none))))
def spec_l40Rd_pick.f (k : Nat) (s0_0 : List Int) (s0_1 : Int) (a1 : Int) : Option (Int × Int) := if a1 < 1 then (spec_l40Rd_pick.j0 k a1 true s0_0 (wrap64 (s0_1 + 1))) else (spec_l40Rd_pick.j0 k a1 ((s0_0.length : Int) == 0) s0_0 (wrap64 (s0_1 + 1)))
theorem spec_l40Rd_pick.mono_l : ∀ k, (∀ y0 y1 y2 y3, LeO (spec_l40Rd_pick.j0 k y0 y1 y2 y3) (spec_l40Rd_pick.j0 (k + 1) y0 y1 y2 y3))
 | 0 => fun _ _ _ _ r h => by simp [spec_l40Rd_pick.j0] at h
 | k + 1 => by
  have ih0 := spec_l40Rd_pick.mono_l k
  ·intro y0 y1 y2 y3
   unfold spec_l40Rd_pick.j0
   repeat' first
   | (with_reducible exact ih0 _ _ _ _)
   | (with_reducible exact LeO.refl _)
   | (with_reducible exact LeO.none _)
   | (with_reducible refine LeO.ite ?_ ?_)
   | (with_reducible refine LeO.bind ?_ (fun _ => ?_))
theorem spec_l40Rd_pick.mono : ∀ a0 a1 a2 k, LeO (spec_l40Rd_pick.f k a0 a1 a2) (spec_l40Rd_pick.f (k + 1) a0 a1 a2) := by
 intro a0 a1 a2 k
 have ih0 := spec_l40Rd_pick.mono_l k
 unfold spec_l40Rd_pick.f
 repeat' first
   | (with_reducible exact ih0 _ _ _ _)
   | (with_reducible exact LeO.refl _)
   | (with_reducible exact LeO.none _)
   | (with_reducible refine LeO.ite ?_ ?_)
   | (with_reducible refine LeO.bind ?_ (fun _ => ?_))
set_option maxHeartbeats 8000000 in
set_option maxRecDepth 100000 in
theorem spec_l40Rd_pick.calls (k : Nat) (g : Nat) (s0_0 : List Int) (s0_1 : Int) (a1 : Int) (r1 : Int) (r2 : Int) (w0 w : World) (hI : IsS121 w0 w g s0_0 s0_1) (hB : Below w0.heap.size w0 w) (h : spec_l40Rd_pick.f k s0_0 s0_1 a1 = some (r1, r2)) :
  Calls Try.prog 79 #[.pointer (some ⟨g, 0, none⟩), .int .i64 a1] w fun e w' => e = .returned (.int .i64 r1) ∧ IsS121 w0 w' g s0_0 r2 ∧ Below w0.heap.size w0 w' ∧ KeepBut w w' g none := by
 have HI0 := Aside0.mk hI
 have HK := Aside0.mk (KeepBut.refl w g none)
 have HL := Aside0.mk hB.size
 clear hI
 have HW0 := Aside0.mk hB.size
 have HB := Aside0.mk hB
 clear hB
 have H : (if a1 < 1 then (spec_l40Rd_pick.j0 k a1 true s0_0 (wrap64 (s0_1 + 1))) else (spec_l40Rd_pick.j0 k a1 ((s0_0.length : Int) == 0) s0_0 (wrap64 (s0_1 + 1)))) = some (r1, r2) := h
 clear h
 have HC3 := Aside0.mk H
 clear H
 obtain ⟨ASz4_0, cSz4_0, HGz4, hgz4, HSz4_0⟩ := HI0.out
 have hcz4_0 := cellS121_0 HGz4
 have hcz4_1 := cellS121_1 HGz4
 have hfz4_1 := blk_frozen HGz4 1
 clear HGz4 hgz4
 go_enter Try.func79, Try.ntmps79
 iterate 5 (go_upto_region 2 with (fail); try go_quiet (fail))
 go_cut [24] (fun v24 wc => ∃ (kq : Nat) (x24_2 : Bool), v24 = .bool x24_2 ∧ Aside0 (spec_l40Rd_pick.j0 kq a1 x24_2 s0_0 (wrap64 (s0_1 + 1)) = some (r1, r2)) ∧ Aside0 (kq ≤ k) ∧ Aside0 (IsS121 w0 wc g s0_0 (wrap64 (s0_1 + 1))) ∧ Aside0 (KeepBut w wc g none) ∧ Aside0 (Below w0.heap.size w0 wc))
 case first =>
  have H := HC3.out
  clear HC3
  by_cases c5 : a1 < 1
  ·rw [if_pos c5] at H
   have c5b0 : decide (a1 < 1) = true := decide_eq_true c5
   clear c5
   (first | rw [c5b0] | (simp only [i64_w, i32_w]; rw [c5b0]) | skip)
   have H' := Aside0.mk H
   clear H
   go_wp2
   repeat (go_quiet (fail); try go_wp2)
   go_meet
   case rel => exact ⟨_, (true), rsd, H', ⟨by first | omega | exact Nat.le_refl _⟩, ⟨by repeat (first | (with_reducible first | exact HI0.out | apply IsS121.alloc | apply IsS121.drewN | apply IsS121.drew | apply IsS121.set_1) | exact HI0.out)⟩, ⟨by repeat (first | (with_reducible first | exact HK.out | apply KeepBut.set_ | apply keep_drewN | apply keep_drew | apply keep_alloc) | exact HK.out)⟩, ⟨by repeat (first | (with_reducible first | exact HB.out | apply bwA | apply bwN | apply bwD | refine below_set ?_ (IsS121.ge HI0.out)) | exact HB.out)⟩⟩
  ·rw [if_neg c5] at H
   have c5b0 : decide (a1 < 1) = false := decide_eq_false c5
   clear c5
   (first | rw [c5b0] | (simp only [i64_w, i32_w]; rw [c5b0]) | skip)
   have H' := Aside0.mk H
   clear H
   obtain ⟨ASz6_0, cSz6_0, HGz6, hgz6, HSz6_0⟩ := HI0.out
   have hcz6_0 := cellS121_0 HGz6
   have hcz6_1 := cellS121_1 HGz6
   have hfz6_1 := blk_frozen HGz6 1
   clear HGz6 hgz6
   go_wp2
   repeat (go_quiet (fail); try go_wp2)
   go_meet
   case rel => exact ⟨_, (((s0_0.length : Int) == 0)), rsd, H', ⟨by first | omega | exact Nat.le_refl _⟩, ⟨by repeat (first | (with_reducible first | exact HI0.out | apply IsS121.alloc | apply IsS121.drewN | apply IsS121.drew | apply IsS121.set_1) | exact HI0.out)⟩, ⟨by repeat (first | (with_reducible first | exact HK.out | apply KeepBut.set_ | apply keep_drewN | apply keep_drew | apply keep_alloc) | exact HK.out)⟩, ⟨by repeat (first | (with_reducible first | exact HB.out | apply bwA | apply bwN | apply bwD | refine below_set ?_ (IsS121.ge HI0.out)) | exact HB.out)⟩⟩
 case rest =>
  clear HC3
  try clear p2
  try clear c5
  try clear c5b0
  try clear p6
  try clear hcz4_0
  try clear hcz4_1
  try clear hcz6_0
  try clear hcz6_1
  try clear hfz4_1
  try clear hfz6_1
  obtain ⟨kq, x24_2, rfl, HA, HJ2, HI0, HK, HB⟩ := hcut
  cases kq with
  | zero => exact absurd HA.out (by simp [spec_l40Rd_pick.j0])
  | succ kj2 =>
   have H := HA.out
   clear HA
   simp only [spec_l40Rd_pick.j0] at H
   by_cases c7 : x24_2 = true
   ·subst c7
    have H1 : (some (0, (wrap64 (s0_1 + 1)))) = some (r1, r2) := by rw [if_pos rfl] at H; exact H
    clear H
    have H := H1
    clear H1
    simp only [Option.some.injEq, Prod.mk.injEq] at H
    obtain ⟨rfl, rfl⟩ := H
    go_wp2
    repeat (go_quiet (fail); try go_wp2)
    go_ret
    exact ⟨ers, by repeat (first | (with_reducible first | exact HI0.out | apply IsS121.alloc | apply IsS121.drewN | apply IsS121.drew | apply IsS121.set_1) | exact HI0.out), by repeat (first | (with_reducible first | exact HB.out | apply bwA | apply bwN | apply bwD | refine below_set ?_ (IsS121.ge HI0.out)) | exact HB.out), by repeat (first | (with_reducible first | exact HK.out | apply KeepBut.set_ | apply keep_drewN | apply keep_drew | apply keep_alloc) | exact HK.out)⟩
   ·replace c7 := Bool.eq_false_iff.mpr c7
    subst c7
    have H1 : (if (wrap64 ((wrap64 (s0_1 + 1)) - 1)) < (s0_0.length : Int) then (if 0 ≤ (wrap64 ((wrap64 (s0_1 + 1)) - 1)) then (if a1 = 0 then (none) else (some (Int.tmod (wrap64 (rd s0_0 (wrap64 ((wrap64 (s0_1 + 1)) - 1)))) a1, (wrap64 (s0_1 + 1))))) else (none)) else (if (s0_0.length : Int) = 0 then (none) else (if 0 ≤ (Int.tmod (wrap64 ((wrap64 (s0_1 + 1)) - 1)) (s0_0.length : Int)) then (if (Int.tmod (wrap64 ((wrap64 (s0_1 + 1)) - 1)) (s0_0.length : Int)) < (s0_0.length : Int) then (if 0 ≤ (Int.tmod (wrap64 ((wrap64 ((wrap64 ((wrap64 (s0_1 + 1)) - 1)) * 7)) + 3)) (s0_0.length : Int)) then (if (Int.tmod (wrap64 ((wrap64 ((wrap64 ((wrap64 (s0_1 + 1)) - 1)) * 7)) + 3)) (s0_0.length : Int)) < (s0_0.length : Int) then (if a1 = 0 then (none) else (some (Int.tmod (Go.bits .xor .i64 (wrap64 ((wrap64 ((wrap64 ((wrap64 ((wrap64 (rd s0_0 (Int.tmod (wrap64 ((wrap64 (s0_1 + 1)) - 1)) (s0_0.length : Int)))) * 131)) + (wrap64 ((wrap64 (rd s0_0 (Int.tmod (wrap64 ((wrap64 ((wrap64 ((wrap64 (s0_1 + 1)) - 1)) * 7)) + 3)) (s0_0.length : Int)))) * 1117)))) + (wrap64 ((wrap64 ((wrap64 (s0_1 + 1)) - 1)) * 29)))) + (wrap64 ((wrap64 (Int.tdiv (wrap64 ((wrap64 (s0_1 + 1)) - 1)) (s0_0.length : Int))) * 53)))) (wrap64 (Int.tdiv (wrap64 ((wrap64 ((wrap64 ((wrap64 ((wrap64 (rd s0_0 (Int.tmod (wrap64 ((wrap64 (s0_1 + 1)) - 1)) (s0_0.length : Int)))) * 131)) + (wrap64 ((wrap64 (rd s0_0 (Int.tmod (wrap64 ((wrap64 ((wrap64 ((wrap64 (s0_1 + 1)) - 1)) * 7)) + 3)) (s0_0.length : Int)))) * 1117)))) + (wrap64 ((wrap64 ((wrap64 (s0_1 + 1)) - 1)) * 29)))) + (wrap64 ((wrap64 (Int.tdiv (wrap64 ((wrap64 (s0_1 + 1)) - 1)) (s0_0.length : Int))) * 53)))) 64))) a1, (wrap64 (s0_1 + 1))))) else (none)) else (none)) else (none)) else (none)))) = some (r1, r2) := by rw [if_neg (show ¬ (false = true) by decide)] at H; exact H
    clear H
    have H := H1
    clear H1
    by_cases c8 : (wrap64 ((wrap64 (s0_1 + 1)) - 1)) < (s0_0.length : Int)
    ·rw [if_pos c8] at H
     have c8b0 : decide ((wrap64 ((wrap64 (s0_1 + 1)) - 1)) < (s0_0.length : Int)) = true := decide_eq_true c8
     clear c8
     obtain ⟨ji9, hji9⟩ : ∃ j_ : Int, (wrap64 ((wrap64 (s0_1 + 1)) - 1)) = j_ := ⟨_, rfl⟩
     replace H : (if 0 ≤ (ji9) then (if a1 = 0 then (none) else (some (Int.tmod (wrap64 (rd s0_0 (ji9))) a1, (wrap64 (s0_1 + 1))))) else (none)) = some (r1, r2) := by first | (rw [hji9] at H; exact H) | (simp only [hji9] at H ⊢; exact H)
     (try rw [hji9] at c8b0)
     have hji9w : (IntKind.i64.wrap ((wrap64 (s0_1 + 1)) - 1)) = ji9 := (i64_w _).trans hji9
     by_cases c10 : 0 ≤ (ji9)
     ·rw [if_pos c10] at H
      have c10b0 : decide (0 ≤ (ji9)) = true := decide_eq_true c10
      clear c10
      by_cases c11 : a1 = 0
      ·rw [if_pos c11] at H
       exact absurd H (by simp)
      ·rw [if_neg c11] at H
       have c11b0 : (a1 == 0) = false := beq_eq_false_iff_ne.mpr c11
       have c11b1 : (a1 != 0) = true := bne_iff_ne.mpr c11
       simp only [Option.some.injEq, Prod.mk.injEq] at H
       obtain ⟨rfl, rfl⟩ := H
       obtain ⟨ASz12_0, cSz12_0, HGz12, hgz12, HSz12_0⟩ := HI0.out
       have hcz12_0 := cellS121_0 HGz12
       have hcz12_1 := cellS121_1 HGz12
       have hfz12_1 := blk_frozen HGz12 1
       clear HGz12 hgz12
       have p106 : 0 ≤ ((ji9) : Int) := oda
       have q106 : (ji9) < (s0_0.length : Int) := oda
       obtain ⟨ad106, e106, hx106_0⟩ := Kd.at_int HSz12_0 (ji9) p106 q106
       cases e106
       replace hx106_0 := pw_cell_below HB.out hx106_0
       replace p106 := eq_true p106
       replace q106 := eq_true q106
       go_wp2
       repeat (go_quiet (fail); try go_wp2)
       go_ret
       exact ⟨by first | rfl | (simp [errW_none, errW_some] <;> rfl) | (simp only [← hji9]; first | rfl | (simp [errW_none, errW_some] <;> rfl)) | (simp [*, errW_none, errW_some] <;> rfl), by repeat (first | (with_reducible first | exact HI0.out | apply IsS121.alloc | apply IsS121.drewN | apply IsS121.drew | apply IsS121.set_1) | exact HI0.out), by repeat (first | (with_reducible first | exact HB.out | apply bwA | apply bwN | apply bwD | refine below_set ?_ (IsS121.ge HI0.out)) | exact HB.out), by repeat (first | (with_reducible first | exact HK.out | apply KeepBut.set_ | apply keep_drewN | apply keep_drew | apply keep_alloc) | exact HK.out)⟩
     ·rw [if_neg c10] at H
      exact absurd H (by simp)
    ·rw [if_neg c8] at H
     have c8b0 : decide ((wrap64 ((wrap64 (s0_1 + 1)) - 1)) < (s0_0.length : Int)) = false := decide_eq_false c8
     clear c8
     by_cases c13 : (s0_0.length : Int) = 0
     ·rw [if_pos c13] at H
      exact absurd H (by simp)
     ·rw [if_neg c13] at H
      have c13b0 : ((s0_0.length : Int) == 0) = false := beq_eq_false_iff_ne.mpr c13
      have c13b1 : ((s0_0.length : Int) != 0) = true := bne_iff_ne.mpr c13
      have c13b2 : ¬ (s0_0 = []) := fun h_ => c13 (by rw [h_]; rfl)
      obtain ⟨ji14, hji14⟩ : ∃ j_ : Int, (Int.tmod (wrap64 ((wrap64 (s0_1 + 1)) - 1)) (s0_0.length : Int)) = j_ := ⟨_, rfl⟩
      replace H : (if 0 ≤ (ji14) then (if (ji14) < (s0_0.length : Int) then (if 0 ≤ (Int.tmod (wrap64 ((wrap64 ((wrap64 ((wrap64 (s0_1 + 1)) - 1)) * 7)) + 3)) (s0_0.length : Int)) then (if (Int.tmod (wrap64 ((wrap64 ((wrap64 ((wrap64 (s0_1 + 1)) - 1)) * 7)) + 3)) (s0_0.length : Int)) < (s0_0.length : Int) then (if a1 = 0 then (none) else (some (Int.tmod (Go.bits .xor .i64 (wrap64 ((wrap64 ((wrap64 ((wrap64 ((wrap64 (rd s0_0 (ji14))) * 131)) + (wrap64 ((wrap64 (rd s0_0 (Int.tmod (wrap64 ((wrap64 ((wrap64 ((wrap64 (s0_1 + 1)) - 1)) * 7)) + 3)) (s0_0.length : Int)))) * 1117)))) + (wrap64 ((wrap64 ((wrap64 (s0_1 + 1)) - 1)) * 29)))) + (wrap64 ((wrap64 (Int.tdiv (wrap64 ((wrap64 (s0_1 + 1)) - 1)) (s0_0.length : Int))) * 53)))) (wrap64 (Int.tdiv (wrap64 ((wrap64 ((wrap64 ((wrap64 ((wrap64 (rd s0_0 (ji14))) * 131)) + (wrap64 ((wrap64 (rd s0_0 (Int.tmod (wrap64 ((wrap64 ((wrap64 ((wrap64 (s0_1 + 1)) - 1)) * 7)) + 3)) (s0_0.length : Int)))) * 1117)))) + (wrap64 ((wrap64 ((wrap64 (s0_1 + 1)) - 1)) * 29)))) + (wrap64 ((wrap64 (Int.tdiv (wrap64 ((wrap64 (s0_1 + 1)) - 1)) (s0_0.length : Int))) * 53)))) 64))) a1, (wrap64 (s0_1 + 1))))) else (none)) else (none)) else (none)) else (none)) = some (r1, r2) := by first | (rw [hji14] at H; exact H) | (simp only [hji14] at H ⊢; exact H)
      by_cases c15 : 0 ≤ (ji14)
      ·rw [if_pos c15] at H
       have c15b0 : decide (0 ≤ (ji14)) = true := decide_eq_true c15
       clear c15
       by_cases c16 : (ji14) < (s0_0.length : Int)
       ·rw [if_pos c16] at H
        have c16b0 : decide ((ji14) < (s0_0.length : Int)) = true := decide_eq_true c16
        clear c16
        obtain ⟨ji17, hji17⟩ : ∃ j_ : Int, (Int.tmod (wrap64 ((wrap64 ((wrap64 ((wrap64 (s0_1 + 1)) - 1)) * 7)) + 3)) (s0_0.length : Int)) = j_ := ⟨_, rfl⟩
        replace H : (if 0 ≤ (ji17) then (if (ji17) < (s0_0.length : Int) then (if a1 = 0 then (none) else (some (Int.tmod (Go.bits .xor .i64 (wrap64 ((wrap64 ((wrap64 ((wrap64 ((wrap64 (rd s0_0 (ji14))) * 131)) + (wrap64 ((wrap64 (rd s0_0 (ji17))) * 1117)))) + (wrap64 ((wrap64 ((wrap64 (s0_1 + 1)) - 1)) * 29)))) + (wrap64 ((wrap64 (Int.tdiv (wrap64 ((wrap64 (s0_1 + 1)) - 1)) (s0_0.length : Int))) * 53)))) (wrap64 (Int.tdiv (wrap64 ((wrap64 ((wrap64 ((wrap64 ((wrap64 (rd s0_0 (ji14))) * 131)) + (wrap64 ((wrap64 (rd s0_0 (ji17))) * 1117)))) + (wrap64 ((wrap64 ((wrap64 (s0_1 + 1)) - 1)) * 29)))) + (wrap64 ((wrap64 (Int.tdiv (wrap64 ((wrap64 (s0_1 + 1)) - 1)) (s0_0.length : Int))) * 53)))) 64))) a1, (wrap64 (s0_1 + 1))))) else (none)) else (none)) = some (r1, r2) := by first | (rw [hji17] at H; exact H) | (simp only [hji17] at H ⊢; exact H)
        by_cases c18 : 0 ≤ (ji17)
        ·rw [if_pos c18] at H
         have c18b0 : decide (0 ≤ (ji17)) = true := decide_eq_true c18
         clear c18
         by_cases c19 : (ji17) < (s0_0.length : Int)
         ·rw [if_pos c19] at H
          have c19b0 : decide ((ji17) < (s0_0.length : Int)) = true := decide_eq_true c19
          clear c19
          by_cases c20 : a1 = 0
          ·rw [if_pos c20] at H
           exact absurd H (by simp)
          ·rw [if_neg c20] at H
           have c20b0 : (a1 == 0) = false := beq_eq_false_iff_ne.mpr c20
           have c20b1 : (a1 != 0) = true := bne_iff_ne.mpr c20
           simp only [Option.some.injEq, Prod.mk.injEq] at H
           obtain ⟨rfl, rfl⟩ := H
           obtain ⟨ASz21_0, cSz21_0, HGz21, hgz21, HSz21_0⟩ := HI0.out
           have hcz21_0 := cellS121_0 HGz21
           have hcz21_1 := cellS121_1 HGz21
           have hfz21_1 := blk_frozen HGz21 1
           clear HGz21 hgz21
           have p107 : 0 ≤ ((ji14) : Int) := oda
           have q107 : (ji14) < (s0_0.length : Int) := oda
           obtain ⟨ad107, e107, hx107_0⟩ := Kd.at_int HSz21_0 (ji14) p107 q107
           cases e107
           replace hx107_0 := pw_cell_below HB.out hx107_0
           replace p107 := eq_true p107
           replace q107 := eq_true q107
           have p108 : 0 ≤ ((ji17) : Int) := oda
           have q108 : (ji17) < (s0_0.length : Int) := oda
           obtain ⟨ad108, e108, hx108_0⟩ := Kd.at_int HSz21_0 (ji17) p108 q108
           obtain rfl : ad107 = ad108 := (by injection e108)
           replace hx108_0 := pw_cell_below HB.out hx108_0
           replace p108 := eq_true p108
           replace q108 := eq_true q108
           go_wp2
           repeat (go_quiet (fail); try go_wp2)
           go_ret
           exact ⟨by first | rfl | (simp [errW_none, errW_some] <;> rfl) | (simp only [← hji14, ← hji17]; first | rfl | (simp [errW_none, errW_some] <;> rfl)) | (simp [*, errW_none, errW_some] <;> rfl), by repeat (first | (with_reducible first | exact HI0.out | apply IsS121.alloc | apply IsS121.drewN | apply IsS121.drew | apply IsS121.set_1) | exact HI0.out), by repeat (first | (with_reducible first | exact HB.out | apply bwA | apply bwN | apply bwD | refine below_set ?_ (IsS121.ge HI0.out)) | exact HB.out), by repeat (first | (with_reducible first | exact HK.out | apply KeepBut.set_ | apply keep_drewN | apply keep_drew | apply keep_alloc) | exact HK.out)⟩
         ·rw [if_neg c19] at H
          exact absurd H (by simp)
        ·rw [if_neg c18] at H
         exact absurd H (by simp)
       ·rw [if_neg c16] at H
        exact absurd H (by simp)
      ·rw [if_neg c15] at H
       exact absurd H (by simp)

/-! ### spec_l40Rd_num: function 80 -/
def spec_l40Rd_num.f (k : Nat) (s0_0 : List Int) (s0_1 : Int) (l1 : List Int) : Option (Int × Int) := (spec_l40Rd_pick.f k s0_0 s0_1 (l1.length : Int)).bind fun bt109 => (if 0 ≤ bt109.1 then (if bt109.1 < (l1.length : Int) then (some (rd l1 bt109.1, bt109.2)) else (none)) else (none))
theorem spec_l40Rd_num.mono : ∀ a0 a1 a2 k, LeO (spec_l40Rd_num.f k a0 a1 a2) (spec_l40Rd_num.f (k + 1) a0 a1 a2) := by
 intro a0 a1 a2 k
 unfold spec_l40Rd_num.f
 repeat' first
   | (with_reducible exact spec_l40Rd_pick.mono _ _ _ _)
   | (with_reducible exact LeO.refl _)
   | (with_reducible exact LeO.none _)
   | (with_reducible refine LeO.ite ?_ ?_)
   | (with_reducible refine LeO.bind ?_ (fun _ => ?_))
set_option maxHeartbeats 8000000 in
set_option maxRecDepth 100000 in
theorem spec_l40Rd_num.calls (k : Nat) (g : Nat) (s0_0 : List Int) (s0_1 : Int) (A1 : Option Addr) (c1 : Nat) (l1 : List Int) (r1 : Int) (r2 : Int) (w0 w : World) (hI : IsS121 w0 w g s0_0 s0_1) (hB : Below w0.heap.size w0 w) (hr1 : Kd.C (Kd.int .i64) w A1 l1.length l1) (hc1 : l1.length ≤ c1) (hf1 : ∀ ad, A1 = some ad → 0 < l1.length → ad.block ≠ g) (h : spec_l40Rd_num.f k s0_0 s0_1 l1 = some (r1, r2)) :
  Calls Try.prog 80 #[.pointer (some ⟨g, 0, none⟩), .slice A1 l1.length c1] w fun e w' => e = .returned (.int .i64 r1) ∧ IsS121 w0 w' g s0_0 r2 ∧ Below w0.heap.size w0 w' ∧ KeepBut w w' g none := by
 have HR1 := Aside0.mk hr1
 have HC1 := Aside0.mk hc1
 clear hr1 hc1
 have HI0 := Aside0.mk hI
 have HK := Aside0.mk (KeepBut.refl w g none)
 have HL := Aside0.mk hB.size
 clear hI
 have HW0 := Aside0.mk hB.size
 have HB := Aside0.mk hB
 clear hB
 have H : ((spec_l40Rd_pick.f k s0_0 s0_1 (l1.length : Int)).bind fun bt109 => (if 0 ≤ bt109.1 then (if bt109.1 < (l1.length : Int) then (some (rd l1 bt109.1, bt109.2)) else (none)) else (none))) = some (r1, r2) := h
 clear h
 replace H := Option.bind_eq_some_iff.mp H
 obtain ⟨⟨t109, t110⟩, A30, H⟩ := H
 replace H : (if 0 ≤ t109 then (if t109 < (l1.length : Int) then (some (rd l1 t109, t110)) else (none)) else (none)) = some (r1, r2) := H
 have A3 := Aside0.mk A30
 clear A30
 by_cases c4 : 0 ≤ t109
 ·rw [if_pos c4] at H
  have c4b0 : decide (0 ≤ t109) = true := decide_eq_true c4
  clear c4
  by_cases c5 : t109 < (l1.length : Int)
  ·rw [if_pos c5] at H
   have c5b0 : decide (t109 < (l1.length : Int)) = true := decide_eq_true c5
   clear c5
   simp only [Option.some.injEq, Prod.mk.injEq] at H
   obtain ⟨rfl, rfl⟩ := H
   go_enter Try.func80, Try.ntmps80
   go_wp2_with (first | ((with_reducible refine gate_callee (f := 79) rfl ?_); refine goesL_ (some 9) rfl rfl Try.func79 (by kernel_rfl) rfl #[.pointer (some ⟨g, 0, none⟩), .int .i64 (l1.length : Int)] rfl lmB ?_; (with_reducible refine (spec_l40Rd_pick.calls k g s0_0 s0_1 (l1.length : Int) t109 t110 w0 _ ?side1 ?side2 A3.out).mono ?_); (case side1 => repeat (first | (with_reducible first | exact HI0.out | apply IsS121.alloc | apply IsS121.drewN | apply IsS121.drew | apply IsS121.set_1) | exact HI0.out)); (case side2 => repeat (first | (with_reducible first | exact HB.out | apply bwA | apply bwN | apply bwD | refine below_set ?_ (IsS121.ge HI0.out)) | exact HB.out)); rintro e w6 ⟨rfl, hi, hb, hk⟩; refine ⟨_, rfl, ?_⟩; have n0_ := Aside0.mk (KeepBut.trans (by repeat (first | (with_reducible first | exact HK.out | apply KeepBut.set_ | apply keep_drewN | apply keep_drew | apply keep_alloc) | exact HK.out)) hk (.inl rfl)); have n1_ := Aside0.mk (hb); have n2_ := Aside0.mk (hi); clear HK; clear HB; clear HI0; have HK := n0_; have HB := n1_; have HI0 := n2_; clear n0_ n1_ n2_; (try clear hb); (try clear hb2); (try clear hk); (try clear hi); have p111 : 0 ≤ (t109 : Int) := oda; have q111 : t109 < (l1.length : Int) := oda; obtain ⟨ad111, e111, hx111_0⟩ := Kd.at_int HR1.out t109 p111 q111; cases e111; replace hx111_0 := keep_cell HK.out hx111_0 (by first | (rw [add_block]; exact hf1 _ rfl (by omega)) | exact hf1 _ rfl (by omega) | exact hf1 ad111 rfl (by omega)); replace p111 := eq_true p111; replace q111 := eq_true q111))
   go_ret
   exact ⟨ers, by repeat (first | (with_reducible first | exact HI0.out | apply IsS121.alloc | apply IsS121.drewN | apply IsS121.drew | apply IsS121.set_1) | exact HI0.out), by repeat (first | (with_reducible first | exact HB.out | apply bwA | apply bwN | apply bwD | refine below_set ?_ (IsS121.ge HI0.out)) | exact HB.out), by repeat (first | (with_reducible first | exact HK.out | apply KeepBut.set_ | apply keep_drewN | apply keep_drew | apply keep_alloc) | exact HK.out)⟩
  ·rw [if_neg c5] at H
   exact absurd H (by simp)
 ·rw [if_neg c4] at H
  exact absurd H (by simp)

/-! ### spec_l8Add: function 130 -/
/-! #### A diagram that grows: the state behind a pointer -/
instance : DecidableEq S56 := fun a b => decidable_of_iff (a.f0 = b.f0 ∧ a.f1 = b.f1 ∧ a.f2 = b.f2) (by cases a; cases b; simp)
/-- Numbers that a key may hold. -/
def KeyI (n : Int) : Prop := 0 ≤ n ∧ n ≤ 9223372036854775807
instance (n : Int) : Decidable (KeyI n) := inferInstanceAs (Decidable (_ ∧ _))
theorem KeyI.wf {n : Int} (h : KeyI n) : (Lit.int .i64 n).wf = true := by
 obtain ⟨h0, h1⟩ := h
 simp [Lit.wf, IntKind.min, IntKind.max, IntKind.signed, IntKind.bits]
 omega
def ekF (x : S56) : Value := .agg #[.int .i64 x.f0, .int .i64 x.f1, .int .i64 x.f2]
def okF (x : S56) : Prop := KeyI x.f0 ∧ KeyI x.f1 ∧ KeyI x.f2
instance (x : S56) : Decidable (okF x) := inferInstanceAs (Decidable (_ ∧ _ ∧ _))
theorem lits_int (n : Nat) (y : Int) (h : KeyI y) : Try.prog.keyLits (n + 1) 3 [.int .i64 y] = some [.int .i64 y] := by
 have hu3 := Try.underlying3
 unfold Program.keyLits
 simp only [hu3]
 rw [if_pos ⟨trivial, h.wf⟩]
theorem types_two : ∃ n, Try.prog.types.size + 1 = n + 2 := ⟨Try.prog.types.size - 1, by have : 1 ≤ Try.prog.types.size := of_decide_eq_true (by kernel_rfl); omega⟩
theorem keyF : Mp.Key Try.prog 56 ekF okF where
 law := Maps.Keyed.of_law (deep_law_laid (m := 3) (by kernel_rfl) (by decide) (of_decide_eq_true (by kernel_rfl)) (by kernel_rfl) (by kernel_rfl))
 reads := by
  rintro x ⟨h0, h1, h2⟩
  have hk : Try.prog.keyType 56 = true := by kernel_rfl
  have hc : Try.prog.cellsOf 56 = 3 := by kernel_rfl
  have hc3 : Try.prog.cellsOf 3 = 1 := by kernel_rfl
  have hu := Try.underlying56
  obtain ⟨n, hn⟩ := types_two
  have hform : (Value.agg #[.int .i64 x.f0, .int .i64 x.f1, .int .i64 x.f2]).formed Try.prog 56 = true := by simp [Value.formed, hu, hc]
  have hl : Try.prog.keyLits (n + 2) 56 [.int .i64 x.f0, .int .i64 x.f1, .int .i64 x.f2] = some [.int .i64 x.f0, .int .i64 x.f1, .int .i64 x.f2] := by
   unfold Program.keyLits
   simp only [hu, hc]
   rw [if_pos ⟨rfl, by kernel_rfl⟩]
   simp [hc3, lits_int _ _ h0, lits_int _ _ h1, lits_int _ _ h2]
  refine ⟨.string (keyBytes [.int .i64 x.f0, .int .i64 x.f1, .int .i64 x.f2]), ?_⟩
  unfold keyOf ekF
  simp only [hu]
  rw [if_pos (by rw [hk, hform]; rfl)]
  show (Try.prog.keyLits (Try.prog.types.size + 1) 56 [.int .i64 x.f0, .int .i64 x.f1, .int .i64 x.f2]).map _ = _
  rw [hn, hl]
  rfl
 inj := by
  rintro ⟨a, b, c⟩ ⟨d, e, f⟩ _ _ h
  simp [ekF] at h
  obtain ⟨rfl, rfl, rfl⟩ := h
  rfl
def ek3 (x : Int × Int × Int) : Value := .agg #[.int .i64 x.1, .int .i64 x.2.1, .int .i64 x.2.2]
def ok3 (x : Int × Int × Int) : Prop := KeyI x.1 ∧ KeyI x.2.1 ∧ KeyI x.2.2
instance (x : Int × Int × Int) : Decidable (ok3 x) := inferInstanceAs (Decidable (_ ∧ _ ∧ _))
theorem key3 : Mp.Key Try.prog 164 ek3 ok3 where
 law := Maps.Keyed.of_law (deep_law_laid (m := 3) (by kernel_rfl) (by decide) (of_decide_eq_true (by kernel_rfl)) (by kernel_rfl) (by kernel_rfl))
 reads := by
  rintro x ⟨h0, h1, h2⟩
  have hk : Try.prog.keyType 164 = true := by kernel_rfl
  have hc : Try.prog.cellsOf 164 = 3 := by kernel_rfl
  have hc3 : Try.prog.cellsOf 3 = 1 := by kernel_rfl
  have hu := Try.underlying164
  obtain ⟨n, hn⟩ := types_two
  have hform : (Value.agg #[.int .i64 x.1, .int .i64 x.2.1, .int .i64 x.2.2]).formed Try.prog 164 = true := by simp [Value.formed, hu, hc]
  have hl : Try.prog.keyLits (n + 2) 164 [.int .i64 x.1, .int .i64 x.2.1, .int .i64 x.2.2] = some [.int .i64 x.1, .int .i64 x.2.1, .int .i64 x.2.2] := by
   unfold Program.keyLits
   simp only [hu, hc]
   simp [hc3, show List.range 3 = [0, 1, 2] by rfl, lits_int _ _ h0, lits_int _ _ h1, lits_int _ _ h2]
  refine ⟨.string (keyBytes [.int .i64 x.1, .int .i64 x.2.1, .int .i64 x.2.2]), ?_⟩
  unfold keyOf ek3
  simp only [hu]
  rw [if_pos (by rw [hk, hform]; rfl)]
  show (Try.prog.keyLits (Try.prog.types.size + 1) 164 [.int .i64 x.1, .int .i64 x.2.1, .int .i64 x.2.2]).map _ = _
  rw [hn, hl]
  rfl
 inj := by
  rintro ⟨a, b, c⟩ ⟨d, e, f⟩ _ _ h
  simp [ek3] at h
  obtain ⟨rfl, rfl, rfl⟩ := h
  rfl
/-- What a diagram that grows holds: its variables, its forks, where each fork stands, whether it is too great, what has been done. -/
structure FS where
 vars : Int
 forks : List S56
 seen : S56 → Option Int
 full : Bool
 memo : Int × Int × Int → Option Int
def IsF (w : World) (base : Nat) (ok : Nat → Prop) (g : Nat) (s : FS) : Prop :=
 ∃ (v : Value) (b1 b2 : Nat), w.heap[g]? = some (.cells #[.int .i64 s.vars, v, .map (some b1), .bool s.full, .map (some b2)] 146 (0, 0)) ∧ Kd.R k56 56 w base ok v s.forks ∧
  Mp.Is ekF okF (Value.int .i64) w b1 s.seen ∧ Mp.Is ek3 ok3 (Value.int .i64) w b2 s.memo ∧ b1 ≠ b2 ∧ ok g ∧ ok b1 ∧ ok b2 ∧ base ≤ g ∧ base ≤ b1 ∧ base ≤ b2
theorem IsF.step {w w1 : World} {base : Nat} {ok : Nat → Prop} {g : Nat} {s : FS} (h : IsF w base ok g s) (hm : ∀ k, ok k → k < w.heap.size → w1.heap[k]? = w.heap[k]?) : IsF w1 base ok g s := by
 obtain ⟨v, b1, b2, h1, h2, h3, h4, h5, h6, h7, h8, h9⟩ := h
 exact ⟨v, b1, b2, (hm g h6 (blk_lt h1)).trans h1, Kd.R_step h2 hm, h3.move (hm b1 h7 h3.lt), h4.move (hm b2 h8 h4.lt), h5, h6, h7, h8, h9⟩
theorem IsF.below {w w1 : World} {base : Nat} {ok : Nat → Prop} {g : Nat} {s : FS} (h : IsF w base ok g s) (hb : Below w.heap.size w w1) : IsF w1 base ok g s := h.step (fun k _ hk => hb.block k hk)
theorem IsF.drewN {w : World} {base : Nat} {ok : Nat → Prop} {g : Nat} {s : FS} (h : IsF w base ok g s) (n : Nat) : IsF (w.drewN n) base ok g s := h.step (fun _ _ _ => rfl)
theorem IsF.mono {w : World} {base : Nat} {ok ok' : Nat → Prop} {g : Nat} {s : FS} (h : IsF w base ok g s) (hk : ∀ k, ok k → ok' k) : IsF w base ok' g s := by
 obtain ⟨v, b1, b2, h1, h2, h3, h4, h5, h6, h7, h8, h9⟩ := h
 exact ⟨v, b1, b2, h1, Kd.R_mono h2 hk, h3, h4, h5, hk _ h6, hk _ h7, hk _ h8, h9⟩
theorem IsF.bound {w : World} {base : Nat} {ok : Nat → Prop} {g : Nat} {s : FS} (h : IsF w base ok g s) : IsF w base (fun k => ok k ∧ base ≤ k ∧ k < w.heap.size) g s := by
 obtain ⟨v, b1, b2, h1, h2, h3, h4, h5, h6, h7, h8, h9, h10, h11⟩ := h
 exact ⟨v, b1, b2, h1, Kd.R_mono (Kd.R_bound h2) (fun k hk => ⟨hk.1, hk.2.1, hk.2.2.1⟩), h3, h4, h5, ⟨h6, h9, blk_lt h1⟩, ⟨h7, h10, h3.lt⟩, ⟨h8, h11, h4.lt⟩, h9, h10, h11⟩
theorem zero_int : ∀ w : World, (zeroValue 3).run Try.prog w = .ok (.int .i64 0) w := fun w => by
 have h := info3
 unfold zeroValue typeInfo
 obtain ⟨i, hi, hz⟩ := Option.map_eq_some_iff.1 h
 simp only [Prod.mk.injEq] at hz
 simp [hi, hz.1]
theorem Kd.R_map {α K V : Type} {d : Kd α} {e base b : Nat} {ok : Nat → Prop} {w w1 : World} {v : Value} {xs : List α} (h : d.R e w base ok v xs) {ek : K → Value} {okk : K → Prop} {ev : V → Value} {f : K → Option V} (hM : Mp.Is ek okk ev w b f) (hg : w.grownBy w1 (some b)) : d.R e w1 base ok v xs :=
 Kd.R_mono (Kd.R_grown (Kd.R_bound h) hg (fun k hk e_ => by
  obtain ⟨_, _, _, q, _, cells, hc⟩ := hk
  cases e_
  obtain ⟨_, _, q, _⟩ := hM
  rw [hc] at q
  cases q)) (fun _ hk => hk.1)
def spec_l8Add.f (a0_0 : Int) (l0_1 : List S56) (v lo hi : Int) : Option (Int × List S56 × Int) :=
 if lo < 0 ∨ hi < 0 then some (a0_0, l0_1, -1) else if lo = hi then some (a0_0, l0_1, lo) else if l0_1.length ≤ 1000000000000 then
  match l0_1.findIdx? (fun y => decide (y = ⟨v, lo, hi⟩)) with
  | some i => some (a0_0, l0_1, (i : Int) + 2)
  | none => if 2000 ≤ l0_1.length then some (a0_0, l0_1, -1) else some (a0_0, l0_1 ++ [⟨v, lo, hi⟩], (l0_1.length : Int) + 2)
 else none
theorem spec_l8Add.find_at {l : List S56} {x : S56} {i : Nat} (hi : i < l.length) (h : l[i] = x) (hn : ∀ q (hq : q < l.length), q < i → l[q] ≠ x) : l.findIdx? (fun y => decide (y = x)) = some i := by
 rw [List.findIdx?_eq_some_iff_getElem]
 exact ⟨hi, decide_eq_true h, fun j hj => by simpa using hn j (by omega) hj⟩
theorem spec_l8Add.find_no {l : List S56} {x : S56} (hn : ∀ q (hq : q < l.length), l[q] ≠ x) : l.findIdx? (fun y => decide (y = x)) = none := by
 rw [List.findIdx?_eq_none_iff]
 intro y hy
 obtain ⟨q, hq, rfl⟩ := List.mem_iff_getElem.1 hy
 simpa using hn q hq
theorem k56_E : k56.E = [] := rfl
set_option maxHeartbeats 8000000 in
set_option maxRecDepth 100000 in
theorem spec_l8Add.strong (a0_0 : Int) (ok : Nat → Prop) (u : Value) (l : List S56) (v lo hi r1 : Int) (r2 : List S56) (r3 : Int) (w0 w : World) (hB : Below w0.heap.size w0 w) (ho : Kd.R k56 56 w w0.heap.size ok u l) (hf : ∀ k, w.heap.size ≤ k → ok k) (h : spec_l8Add.f a0_0 l v lo hi = some (r1, r2, r3)) :
  Calls Try.prog 130 #[.agg #[.int .i64 a0_0, u], .int .i64 v, .int .i64 lo, .int .i64 hi] w fun e w' => ∃ v1 : Value, e = .returned (.tuple #[.agg #[.int .i64 r1, v1], .int .i64 r3]) ∧ Kd.R k56 56 w' w0.heap.size ok v1 r2 ∧ Below w0.heap.size w0 w' ∧ Kept w w' (fun k_ => u.ownBlock = some k_) ∧ Ap.Stays k56 56 w0.heap.size w u l w' v1 r2 := by
 have hu25 := Try.underlying48
 have hu71 := Try.underlying56
 obtain ⟨A, c, rfl⟩ := Kd.R_slice ho
 have HR := Aside0.mk ho
 have HB := Aside0.mk hB
 have HF := Aside0.mk hf
 unfold spec_l8Add.f at h
 clear ho hB hf
 by_cases c1 : lo < 0 ∨ hi < 0
 ·rw [if_pos c1] at h
  simp only [Option.some.injEq, Prod.mk.injEq] at h
  obtain ⟨rfl, rfl, rfl⟩ := h
  have key : (decide (lo < 0) = true ∧ True) ∨ (decide (lo < 0) = false ∧ decide (hi < 0) = true) := by
   by_cases c2 : lo < 0
   ·exact .inl ⟨decide_eq_true c2, trivial⟩
   ·exact .inr ⟨decide_eq_false c2, decide_eq_true (by omega)⟩
  clear c1
  rcases key with ⟨e1, e2⟩ | ⟨e1, e2⟩
  all_goals
   go_enter Try.func130, Try.ntmps130
   go_wp2_with (first | ((with_reducible refine gate_dst (N := 4) rfl ?_); refine box_event ?hg (N := 4) ?hd (cs := #[.int .i64 a0_0, .slice A l.length c]) (t := 48) ?hr ?_; (case hd => rfl); (case hg => rfl); (case hr => first | (go_simp; done) | (go_simp; rfl)); intro g0 hg0 w1 hbox hb; have BD1 := Aside0.mk hbox; have HB1 := Aside0.mk hb; have GD := Aside0.mk (show w.heap.size ≤ g0 from Nat.le_of_eq hg0.symm); clear hg0 hbox hb) | ((with_reducible refine gate_dst (N := 8) rfl ?_); refine box_event ?hg (N := 8) ?hd (cs := #[.int .i64 0, .slice none 0 0]) (t := 48) ?hr ?_; (case hd => rfl); (case hg => rfl); (case hr => first | (go_simp; done) | (go_simp; rfl)); intro gr hgr w2 hbox hb; have GR := Aside0.mk (show w.heap.size ≤ gr by rw [hgr]; exact HB1.out.size); have BR2 := Aside0.mk hbox; have GRD := Aside0.mk (show gr ≠ g0 from fun e_ => by have := blk_lt BD1.out; omega); have BD2 := Aside0.mk (blk_below BD1.out hb); have HB2 := Aside0.mk (below_step HB1.out hb); have d20 : w2.cell? ⟨g0, 0, none⟩ = some (.int .i64 a0_0) := (blk_cell BD2.out 0).trans rfl; have d21 : w2.cell? ⟨g0, 1, none⟩ = some (.slice A l.length c) := (blk_cell BD2.out 1).trans rfl; have r20 : w2.cell? ⟨gr, 0, none⟩ = some (.int .i64 0) := (blk_cell BR2.out 0).trans rfl; have r21 : w2.cell? ⟨gr, 1, none⟩ = some (.slice none 0 0) := (blk_cell BR2.out 1).trans rfl; have q20 := blk_frozen BR2.out 0; have q21 := blk_frozen BR2.out 1; clear hgr hbox hb))
   have HE := below_set (below_set HB2.out GR.out (j := 0) (v := .int .i64 a0_0)) GR.out (j := 1) (v := .slice A l.length c)
   refine bodyPost_ret (results_ct rfl _ _ gr 48 #[.int .i64 a0_0, .slice A l.length c] (0, 0) _ rfl (blk_put (blk_put BR2.out 0 _ rfl) 1 _ rfl) Try.underlying48 rfl (by kernel_rfl)) rfl ?_
   exact ⟨_, rfl, Kd.R_below HR.out HE, below_then HB.out HB.out.size HE, Kept.of_below HE _, Ap.Stays.refl HE⟩
 rw [if_neg c1] at h
 have e1 : decide (lo < 0) = false := decide_eq_false (by omega)
 have e2 : decide (hi < 0) = false := decide_eq_false (by omega)
 clear c1
 by_cases c2 : lo = hi
 ·rw [if_pos c2] at h
  simp only [Option.some.injEq, Prod.mk.injEq] at h
  obtain ⟨rfl, rfl, rfl⟩ := h
  have e3 : (lo == hi) = true := beq_iff_eq.mpr c2
  clear c2
  go_enter Try.func130, Try.ntmps130
  go_wp2_with (first | ((with_reducible refine gate_dst (N := 4) rfl ?_); refine box_event ?hg (N := 4) ?hd (cs := #[.int .i64 a0_0, .slice A l.length c]) (t := 48) ?hr ?_; (case hd => rfl); (case hg => rfl); (case hr => first | (go_simp; done) | (go_simp; rfl)); intro g0 hg0 w1 hbox hb; have BD1 := Aside0.mk hbox; have HB1 := Aside0.mk hb; have GD := Aside0.mk (show w.heap.size ≤ g0 from Nat.le_of_eq hg0.symm); clear hg0 hbox hb) | ((with_reducible refine gate_dst (N := 8) rfl ?_); refine box_event ?hg (N := 8) ?hd (cs := #[.int .i64 0, .slice none 0 0]) (t := 48) ?hr ?_; (case hd => rfl); (case hg => rfl); (case hr => first | (go_simp; done) | (go_simp; rfl)); intro gr hgr w2 hbox hb; have GR := Aside0.mk (show w.heap.size ≤ gr by rw [hgr]; exact HB1.out.size); have BR2 := Aside0.mk hbox; have GRD := Aside0.mk (show gr ≠ g0 from fun e_ => by have := blk_lt BD1.out; omega); have BD2 := Aside0.mk (blk_below BD1.out hb); have HB2 := Aside0.mk (below_step HB1.out hb); have d20 : w2.cell? ⟨g0, 0, none⟩ = some (.int .i64 a0_0) := (blk_cell BD2.out 0).trans rfl; have d21 : w2.cell? ⟨g0, 1, none⟩ = some (.slice A l.length c) := (blk_cell BD2.out 1).trans rfl; have r20 : w2.cell? ⟨gr, 0, none⟩ = some (.int .i64 0) := (blk_cell BR2.out 0).trans rfl; have r21 : w2.cell? ⟨gr, 1, none⟩ = some (.slice none 0 0) := (blk_cell BR2.out 1).trans rfl; have q20 := blk_frozen BR2.out 0; have q21 := blk_frozen BR2.out 1; clear hgr hbox hb))
  have HE := below_set (below_set HB2.out GR.out (j := 0) (v := .int .i64 a0_0)) GR.out (j := 1) (v := .slice A l.length c)
  refine bodyPost_ret (results_ct rfl _ _ gr 48 #[.int .i64 a0_0, .slice A l.length c] (0, 0) _ rfl (blk_put (blk_put BR2.out 0 _ rfl) 1 _ rfl) Try.underlying48 rfl (by kernel_rfl)) rfl ?_
  exact ⟨_, rfl, Kd.R_below HR.out HE, below_then HB.out HB.out.size HE, Kept.of_below HE _, Ap.Stays.refl HE⟩
 rw [if_neg c2] at h
 have e3 : (lo == hi) = false := beq_eq_false_iff_ne.mpr c2
 clear c2
 by_cases c3 : l.length ≤ 1000000000000
 ·rw [if_pos c3] at h
  have C3 := Aside0.mk c3
  have H := Aside0.mk h
  clear c3 h
  go_enter Try.func130, Try.ntmps130
  go_wp2_with (first | ((with_reducible refine gate_dst (N := 4) rfl ?_); refine box_event ?hg (N := 4) ?hd (cs := #[.int .i64 a0_0, .slice A l.length c]) (t := 48) ?hr ?_; (case hd => rfl); (case hg => rfl); (case hr => first | (go_simp; done) | (go_simp; rfl)); intro g0 hg0 w1 hbox hb; have BD1 := Aside0.mk hbox; have HB1 := Aside0.mk hb; have GD := Aside0.mk (show w.heap.size ≤ g0 from Nat.le_of_eq hg0.symm); clear hg0 hbox hb) | ((with_reducible refine gate_dst (N := 8) rfl ?_); refine box_event ?hg (N := 8) ?hd (cs := #[.int .i64 0, .slice none 0 0]) (t := 48) ?hr ?_; (case hd => rfl); (case hg => rfl); (case hr => first | (go_simp; done) | (go_simp; rfl)); intro gr hgr w2 hbox hb; have GR := Aside0.mk (show w.heap.size ≤ gr by rw [hgr]; exact HB1.out.size); have BR2 := Aside0.mk hbox; have GRD := Aside0.mk (show gr ≠ g0 from fun e_ => by have := blk_lt BD1.out; omega); have BD2 := Aside0.mk (blk_below BD1.out hb); have HB2 := Aside0.mk (below_step HB1.out hb); have d20 : w2.cell? ⟨g0, 0, none⟩ = some (.int .i64 a0_0) := (blk_cell BD2.out 0).trans rfl; have d21 : w2.cell? ⟨g0, 1, none⟩ = some (.slice A l.length c) := (blk_cell BD2.out 1).trans rfl; have r20 : w2.cell? ⟨gr, 0, none⟩ = some (.int .i64 0) := (blk_cell BR2.out 0).trans rfl; have r21 : w2.cell? ⟨gr, 1, none⟩ = some (.slice none 0 0) := (blk_cell BR2.out 1).trans rfl; have q20 := blk_frozen BR2.out 0; have q21 := blk_frozen BR2.out 1; clear hgr hbox hb) | ((with_reducible refine gate_dst (N := 10) rfl ?_); refine box_event ?hg (N := 10) ?hd (cs := #[.int .i64 0, .int .i64 0, .int .i64 0]) (t := 56) ?hr ?_; (case hd => rfl); (case hg => rfl); (case hr => first | (go_simp; done) | (go_simp; rfl)); intro gb hgb w3 hbox hb; have BX3 := Aside0.mk hbox; have BD3 := Aside0.mk (blk_below BD2.out hb); have BR3 := Aside0.mk (blk_below BR2.out hb); have HB3 := Aside0.mk (below_step HB2.out hb); have GB := Aside0.mk (And.intro (show w.heap.size ≤ gb by rw [hgb]; exact HB2.out.size) (And.intro (show gr ≠ gb from fun e_ => by have := blk_lt BR2.out; omega) (show g0 ≠ gb from fun e_ => by have := blk_lt BD2.out; omega))); have z30 : w3.cell? ⟨gb, 0, none⟩ = some (.int .i64 0) := (blk_cell BX3.out 0).trans rfl; have z31 : w3.cell? ⟨gb, 1, none⟩ = some (.int .i64 0) := (blk_cell BX3.out 1).trans rfl; have z32 : w3.cell? ⟨gb, 2, none⟩ = some (.int .i64 0) := (blk_cell BX3.out 2).trans rfl; have y30 := blk_frozen BX3.out 0; have y31 := blk_frozen BX3.out 1; have y32 := blk_frozen BX3.out 2; clear hgb hbox hb))
  have n0 := Aside0.mk (below_set (below_set (below_set HB3.out GB.out.1 (j := 0) (v := .int .i64 v)) GB.out.1 (j := 1) (v := .int .i64 lo)) GB.out.1 (j := 2) (v := .int .i64 hi))
  have n1 := Aside0.mk (blk_put (blk_put (blk_put BX3.out 0 (.int .i64 v) rfl) 1 (.int .i64 lo) rfl) 2 (.int .i64 hi) rfl)
  have n2 := Aside0.mk (blk_far (p := ⟨gb, 2, none⟩) (blk_far (p := ⟨gb, 1, none⟩) (blk_far (p := ⟨gb, 0, none⟩) BD3.out GB.out.2.2 (.int .i64 v)) GB.out.2.2 (.int .i64 lo)) GB.out.2.2 (.int .i64 hi))
  have n3 := Aside0.mk (blk_far (p := ⟨gb, 2, none⟩) (blk_far (p := ⟨gb, 1, none⟩) (blk_far (p := ⟨gb, 0, none⟩) BR3.out GB.out.2.1 (.int .i64 v)) GB.out.2.1 (.int .i64 lo)) GB.out.2.1 (.int .i64 hi))
  generalize (((w3.setCell ⟨gb, 0, none⟩ (.int .i64 v)).setCell ⟨gb, 1, none⟩ (.int .i64 lo)).setCell ⟨gb, 2, none⟩ (.int .i64 hi)) = w4 at n0 n1 n2 n3 ⊢
  clear z30 z31 z32 y30 y31 y32 BX3 BD3 BR3 HB3
  go_loopg [11] l.length (fun gg s11 wr => ∃ (i : Nat), s11 = .int .i64 (i : Int) ∧ Aside0 (i + gg = l.length) ∧ Aside0 (∀ q (hq : q < l.length), q < i → l[q] ≠ ⟨v, lo, hi⟩) ∧ Aside0 (Below w.heap.size w wr) ∧ Aside0 (wr.heap[gb]? = some (.cells #[.int .i64 v, .int .i64 lo, .int .i64 hi] 56 (0, 0))) ∧ Aside0 (wr.heap[g0]? = some (.cells #[.int .i64 a0_0, .slice A l.length c] 48 (0, 0))) ∧ Aside0 (wr.heap[gr]? = some (.cells #[.int .i64 0, .slice none 0 0] 48 (0, 0))))
  case atStart => exact ⟨0, rfl, ⟨by omega⟩, ⟨fun q hq h0 => absurd h0 (by omega)⟩, n0, n1, n2, n3⟩
  case round =>
   clear n0 n1 n2 n3
   obtain ⟨i, rfl, HI, HN, HB5, BX5, BD5, BR5⟩ := hrel
   have d51 : wr.cell? ⟨g0, 1, none⟩ = some (.slice A l.length c) := (blk_cell BD5.out 1).trans rfl
   by_cases c4 : i < l.length
   ·obtain ⟨k1, rfl⟩ : ∃ k1, gk = k1 + 1 := ⟨gk - 1, by have := HI.out; omega⟩
    have c4a : (i : Int) < (l.length : Int) := by omega
    have c4b : decide ((i : Int) < (l.length : Int)) = true := decide_eq_true c4a
    have c4c : (0 : Int) ≤ (i : Int) := by omega
    have c4d : decide ((0 : Int) ≤ (i : Int)) = true := decide_eq_true c4c
    have HR5 := Aside0.mk (Kd.R_below HR.out HB5.out)
    go_wp2
    obtain ⟨ad, rfl, hx0, hx1, hx2⟩ := at_T56 (Kd.R_reads' (Kd.R_drew HR5.out)).2.2 (i : Int) c4c c4a
    have hget : rd_T56 l (i : Int) = l[i] := by unfold rd_T56; rw [List.getD_eq_getElem?_getD, Int.toNat_natCast, List.getElem?_eq_getElem c4]; rfl
    simp only [Int.toNat_natCast, hget] at hx0 hx1 hx2
    refine start_ (n := 7) (S := fun w' => w'.cell? ⟨g0, 1, none⟩ = some (.slice (some ad) l.length c) ∧ w'.cell? ⟨gb, 0, none⟩ = some (.int .i64 v) ∧ w'.cell? ⟨gb, 1, none⟩ = some (.int .i64 lo) ∧ w'.cell? ⟨gb, 2, none⟩ = some (.int .i64 hi) ∧ w'.cell? (ad.add (i * 3)) = some (.int .i64 l[i].f0) ∧ w'.cell? ⟨(ad.add (i * 3)).block, (ad.add (i * 3)).off + 1, none⟩ = some (.int .i64 l[i].f1) ∧ w'.cell? ⟨(ad.add (i * 3)).block, (ad.add (i * 3)).off + 2, none⟩ = some (.int .i64 l[i].f2)) (ds := []) (Pt.bm 7 0) (by kernel_rfl) rfl rfl ⟨(blk_cell BD5.out 1).trans rfl, (blk_cell BX5.out 0).trans rfl, (blk_cell BX5.out 1).trans rfl, (blk_cell BX5.out 2).trans rfl, hx0, hx1, hx2⟩ (fun hHeld => ?_)
    have HB6 := Aside0.mk (below_step HB5.out (below_drew (Below.refl _ _)))
    have BX6 := Aside0.mk (blk_drew BX5.out)
    have BD6 := Aside0.mk (blk_drew BD5.out)
    have BR6 := Aside0.mk (blk_drew BR5.out)
    clear d51 hx0 hx1 hx2 HB5 BX5 BD5 BR5 HR5
    generalize wr.drew = w6 at HB6 BX6 BD6 BR6 hHeld ⊢
    refine Pt.pu 0 (some 35) (Pt.bm 7 1) (by kernel_rfl) ?_
    refine Pt.tk 1 (some 36) (Pt.bm 7 3) rfl rfl (by kernel_rfl) hHeld (Or.inl ⟨by rfl, by rintro w' ⟨s0, s1, s2, s3, s4, s5, s6⟩; go_simp; with_reducible rfl⟩) ?_
    refine Pt.pu 2 (some 37) (Pt.bm 7 7) (by kernel_rfl) ?_
    refine Pt.pu 3 (some 38) (Pt.bm 7 15) (by kernel_rfl) ?_
    refine Pt.tk 4 (some 39) (Pt.bm 7 31) rfl rfl (by kernel_rfl) hHeld (Or.inl ⟨by rfl, by rintro w' ⟨s0, s1, s2, s3, s4, s5, s6⟩; go_simp; with_reducible rfl⟩) ?_
    refine Pt.tk 5 (some 40) (Pt.bm 7 63) rfl rfl (by kernel_rfl) hHeld (Or.inl ⟨by rfl, by rintro w' ⟨s0, s1, s2, s3, s4, s5, s6⟩; go_simp; with_reducible rfl⟩) ?_
    by_cases c5 : l[i] = ⟨v, lo, hi⟩
    ·have H2 := H.out
     rw [spec_l8Add.find_at c4 c5 HN.out] at H2
     refine Pt.pu 6 (some 41) (v := .bool true) (Pt.bm 7 127) (by kernel_rfl) ?_ (hy := Or.inl ⟨by rfl, by
      intro w'
      go_simp
      try simp [c5]⟩)
     refine done_ (by kernel_rfl) ?_
     clear hHeld
     have d60 : w6.cell? ⟨g0, 0, none⟩ = some (.int .i64 a0_0) := (blk_cell BD6.out 0).trans rfl
     have d61 : w6.cell? ⟨g0, 1, none⟩ = some (.slice (some ad) l.length c) := (blk_cell BD6.out 1).trans rfl
     simp only [Option.some.injEq, Prod.mk.injEq] at H2
     obtain ⟨rfl, rfl, rfl⟩ := H2
     have hw1 : wrap64 ((i : Int) + 2) = (i : Int) + 2 := by have := C3.out; unfold wrap64; omega
     have hw1' : (IntKind.i64.wrap ((i : Int) + 2)) = (i : Int) + 2 := (i64_w _).trans hw1
     have r60 : w6.cell? ⟨gr, 0, none⟩ = some (.int .i64 0) := (blk_cell BR6.out 0).trans rfl
     have r61 : w6.cell? ⟨gr, 1, none⟩ = some (.slice none 0 0) := (blk_cell BR6.out 1).trans rfl
     have q60 := blk_frozen BR6.out 0
     have q61 := blk_frozen BR6.out 1
     clear c5
     go_wp2
     have HE := below_set (below_set HB6.out GR.out (j := 0) (v := .int .i64 a0_0)) GR.out (j := 1) (v := .slice (some ad) l.length c)
     refine bodyPost_ret (results_ct rfl _ _ gr 48 #[.int .i64 a0_0, .slice (some ad) l.length c] (0, 0) _ rfl (blk_put (blk_put BR6.out 0 _ rfl) 1 _ rfl) Try.underlying48 rfl (by kernel_rfl)) rfl ?_
     exact ⟨_, rfl, Kd.R_below HR.out HE, below_then HB.out HB.out.size HE, Kept.of_below HE _, Ap.Stays.refl HE⟩
    ·skip
     refine Pt.pu 6 (some 41) (v := .bool false) (Pt.bm 7 127) (by kernel_rfl) ?_ (hy := Or.inl ⟨by rfl, by
      intro w'
      go_simp
      revert c5
      generalize l[i] = x
      obtain ⟨x0, x1, x2⟩ := x
      intro c5
      by_cases q0 : x0 = v <;> by_cases q1 : x1 = lo <;> by_cases q2 : x2 = hi <;> simp_all⟩)
     refine done_ (by kernel_rfl) ?_
     clear hHeld
     have d60 : w6.cell? ⟨g0, 0, none⟩ = some (.int .i64 a0_0) := (blk_cell BD6.out 0).trans rfl
     have d61 : w6.cell? ⟨g0, 1, none⟩ = some (.slice (some ad) l.length c) := (blk_cell BD6.out 1).trans rfl
     have hw1 : wrap64 ((i : Int) + 1) = (i : Int) + 1 := by have := C3.out; unfold wrap64; omega
     have hw1' : (IntKind.i64.wrap ((i : Int) + 1)) = (i : Int) + 1 := (i64_w _).trans hw1
     have C5 := Aside0.mk c5
     clear c5
     go_wp2
     go_roundg k1
     case measure => exact Nat.lt_succ_self _
     case rel => exact ⟨i + 1, by first | rfl | (simp only [Int.natCast_add]; rfl) | simp [hw1, hw1'], ⟨by have := HI.out; omega⟩, ⟨fun q hq hqi => by
      by_cases e_ : q = i
      ·subst e_
       exact C5.out
      ·exact HN.out q hq (by omega)⟩, HB6, BX6, BD6, BR6⟩
   ·have hi : i = l.length := by have := HI.out; omega
    subst hi
    have hfn := spec_l8Add.find_no (fun q hq => HN.out q hq hq)
    have H2 := H.out
    rw [hfn] at H2
    have c4b : decide ((l.length : Int) < (l.length : Int)) = false := decide_eq_false (by omega)
    by_cases c6 : 2000 ≤ l.length
    ·simp only [if_pos c6, Option.some.injEq, Prod.mk.injEq] at H2
     obtain ⟨rfl, rfl, rfl⟩ := H2
     have c6b : decide (2000 ≤ (l.length : Int)) = true := decide_eq_true (by omega)
     have d50 : wr.cell? ⟨g0, 0, none⟩ = some (.int .i64 a0_0) := (blk_cell BD5.out 0).trans rfl
     have r50 : wr.cell? ⟨gr, 0, none⟩ = some (.int .i64 0) := (blk_cell BR5.out 0).trans rfl
     have r51 : wr.cell? ⟨gr, 1, none⟩ = some (.slice none 0 0) := (blk_cell BR5.out 1).trans rfl
     have q50 := blk_frozen BR5.out 0
     have q51 := blk_frozen BR5.out 1
     clear c6
     go_wp2
     have HE := below_set (below_set HB5.out GR.out (j := 0) (v := .int .i64 a0_0)) GR.out (j := 1) (v := .slice A l.length c)
     refine bodyPost_ret (results_ct rfl _ _ gr 48 #[.int .i64 a0_0, .slice A l.length c] (0, 0) _ rfl (blk_put (blk_put BR5.out 0 _ rfl) 1 _ rfl) Try.underlying48 rfl (by kernel_rfl)) rfl ?_
     exact ⟨_, rfl, Kd.R_below HR.out HE, below_then HB.out HB.out.size HE, Kept.of_below HE _, Ap.Stays.refl HE⟩
    ·simp only [if_neg c6, Option.some.injEq, Prod.mk.injEq] at H2
     obtain ⟨rfl, rfl, rfl⟩ := H2
     have c6b : decide (2000 ≤ (l.length : Int)) = false := decide_eq_false (by omega)
     have C6 := Aside0.mk c6
     have HR5 := Aside0.mk (Kd.R_below HR.out HB5.out)
     have x50 : wr.cell? ⟨gb, 0, none⟩ = some (.int .i64 v) := (blk_cell BX5.out 0).trans rfl
     have x51 : wr.cell? ⟨gb, 1, none⟩ = some (.int .i64 lo) := (blk_cell BX5.out 1).trans rfl
     have x52 : wr.cell? ⟨gb, 2, none⟩ = some (.int .i64 hi) := (blk_cell BX5.out 2).trans rfl
     have d50 : wr.cell? ⟨g0, 0, none⟩ = some (.int .i64 a0_0) := (blk_cell BD5.out 0).trans rfl
     have qd1 := blk_frozen BD5.out 1
     clear c6
     obtain ⟨y, hy⟩ : ∃ y, y = l ++ [(⟨v, lo, hi⟩ : S56)] := ⟨_, rfl⟩
     have hyl : y.length = l.length + 1 := by rw [hy]; simp
     have HY := Aside0.mk hy
     have HYL := Aside0.mk hyl
     clear hy hyl
     go_wp2_with ((with_reducible refine gate_builtin (b := .append) (xs := #[.tmp 51, .tmp 53]) rfl ?_); at_builtin; refine Ap.R_append k56 k56_E (w0 := w0) w0.heap.size rfl (.tmp 51) (.tmp 53) 46 56 (.agg #[(.int .i64 0), (.int .i64 0), (.int .i64 0)]) 24 rfl Try.underlying46 info56 rfl (by decide) (by omega) (.slice A l.length c) l (⟨v, lo, hi⟩ : S56) [.int .i64 v, .int .i64 lo, .int .i64 hi] ok rfl rfl (k56_mkM _ _ _ (⟨v, lo, hi⟩ : S56)) (fun k hk => HF.out k (Nat.le_trans HB5.out.size hk)) HR5.out (below_then HB.out HB.out.size HB5.out) (Nat.le_trans HB.out.size HB5.out.size) (by have := C6.out; omega) ?_; intro v1 w7 ho7 hb7 hg7 _ hs7; obtain ⟨A7, c7, e7⟩ := Kd.R_slice ho7; subst e7; rw [← HY.out] at ho7 hs7 ⊢; have NE7 := Aside0.mk (Kd.R_ne HR5.out BD5.out (by decide)); have NR7 := Aside0.mk (Kd.R_ne HR5.out BR5.out (by decide)); have BD7 := Aside0.mk (blk_grown BD5.out hg7 NE7.out); have BR7 := Aside0.mk (blk_grown BR5.out hg7 NR7.out); have HO7 := Aside0.mk ho7; have HB7 := Aside0.mk hb7; have HK7 := Aside0.mk (Kept.of_grown hg7 (Kept.of_below HB5.out (fun k_ => (Value.slice A l.length c).ownBlock = some k_)) (fun k hk => .inl hk)); have HS7 := Aside0.mk (hs7.from_ HB5.out); have GS7 := Aside0.mk (Nat.le_trans HB5.out.size hg7.size); have d70 : w7.cell? ⟨g0, 0, none⟩ = some (.int .i64 a0_0) := (blk_cell BD7.out 0).trans rfl; have d71 : w7.cell? ⟨g0, 1, none⟩ = some (.slice A l.length c) := (blk_cell BD7.out 1).trans rfl; have qd7 := blk_frozen BD7.out 1; clear ho7 hb7 hg7 hs7)
     have hlw : wrap64 ((y.length : Int) + 1) = (l.length : Int) + 2 := by have := C6.out; have := HYL.out; unfold wrap64; omega
     have hlw' : (IntKind.i64.wrap ((y.length : Int) + 1)) = (l.length : Int) + 2 := (i64_w _).trans hlw
     have n0 := Aside0.mk (blk_put (cs' := #[.int .i64 a0_0, .slice A7 y.length c7]) BD7.out 1 (.slice A7 y.length c7) rfl)
     have n1 := Aside0.mk (blk_far (p := ⟨g0, 1, none⟩) BR7.out (GRD.out) (.slice A7 y.length c7))
     have n2 := Aside0.mk (Kd.R_set HO7.out BD7.out (by decide) 1 (.slice A7 y.length c7))
     have n3 := Aside0.mk (HB7.out.setCell (p := ⟨g0, 1, none⟩) (Nat.le_trans HB.out.size GD.out) (.slice A7 y.length c7))
     have n4 := Aside0.mk (HK7.out.setCell (p := ⟨g0, 1, none⟩) (.inr GD.out) (.slice A7 y.length c7))
     have n5 : Aside0 (Ap.Stays k56 56 w0.heap.size w (.slice A l.length c) l (w7.setCell ⟨g0, 1, none⟩ (.slice A7 y.length c7)) (.slice A7 y.length c7) y) := ⟨fun ok0 u0 xs0 h0 hp => by
      obtain ⟨q1, q2⟩ := HS7.out ok0 u0 xs0 h0 hp
      exact ⟨Kd.R_set q1 BD7.out (by decide) 1 _, q2⟩⟩
     clear d70 d71 qd7 BD7 BR7 HO7 HB7 HK7 HS7
     generalize (w7.setCell ⟨g0, 1, none⟩ (.slice A7 y.length c7)) = w8 at n0 n1 n2 n3 n4 n5 ⊢
     refine start_ (n := 7) (S := fun w' => w'.cell? ⟨g0, 0, none⟩ = some (.int .i64 a0_0) ∧ w'.cell? ⟨g0, 1, none⟩ = some (.slice A7 y.length c7)) (ds := []) (Pt.bm 7 0) (by kernel_rfl) rfl rfl ⟨(blk_cell n0.out 0).trans rfl, (blk_cell n0.out 1).trans rfl⟩ (fun hHeld => ?_)
     have m1 := Aside0.mk (blk_drew n1.out)
     have m2 := Aside0.mk (Kd.R_drew n2.out)
     have m3 := Aside0.mk (below_drew n3.out)
     have m4 := Aside0.mk n4.out.drew
     have m5 := Aside0.mk (n5.out.below (below_drew (Below.refl _ _)))
     clear n0 n1 n2 n3 n4 n5
     generalize w8.drew = w9 at m1 m2 m3 m4 m5 hHeld ⊢
     refine Pt.tk 0 (some 56) (Pt.bm 7 1) rfl rfl (by kernel_rfl) hHeld (Or.inl ⟨by rfl, by rintro w' ⟨s0, s1⟩; go_simp; with_reducible rfl⟩) ?_
     refine Pt.pu 1 (some 57) (Pt.bm 7 3) (by kernel_rfl) ?_
     refine Pt.tk 2 (some 58) (Pt.bm 7 7) rfl rfl (by kernel_rfl) hHeld (Or.inl ⟨by rfl, by rintro w' ⟨s0, s1⟩; go_simp; with_reducible rfl⟩) ?_
     refine Pt.pu 3 (some 59) (Pt.bm 7 15) (by kernel_rfl) ?_
     refine Pt.pu 4 (some 60) (Pt.bm 7 31) (by kernel_rfl) ?_
     refine one_ (i := 5) (N := none) (Pt.bm 7 63) rfl rfl (by kernel_rfl) (by decide) (fun K hK => ?_)
     have hs0 : w9.cell? ⟨gr, 0, none⟩ = some (.int .i64 0) := (blk_cell m1.out 0).trans rfl
     have hs1 : w9.cell? ⟨gr, 1, none⟩ = some (.slice none 0 0) := (blk_cell m1.out 1).trans rfl
     have hfs0 := blk_frozen m1.out 0
     have hfs1 := blk_frozen m1.out 1
     refine skip_ (w1 := ?_) (by rfl) rfl ?_ ?_
     rotate_left
     ·go_simp
      rfl
     refine hK.out _ _ ⟨((cell_far (p := ⟨gr, _, none⟩) GRD.out.symm _).trans ((cell_far (p := ⟨gr, _, none⟩) GRD.out.symm _).trans hHeld.1)), ((cell_far (p := ⟨gr, _, none⟩) GRD.out.symm _).trans ((cell_far (p := ⟨gr, _, none⟩) GRD.out.symm _).trans hHeld.2))⟩ (fun hHeld => ?_)
     clear hK K hs0 hs1 hfs0 hfs1
     refine Pt.pu 6 (some 9) (Pt.bm 7 127) (by kernel_rfl) ?_
     refine done_ (by kernel_rfl) ?_
     try go_wp2
     refine bodyPost_ret (results_ct rfl _ _ gr 48 #[.int .i64 a0_0, .slice A7 y.length c7] (0, 0) _ rfl (blk_put (blk_put m1.out 0 _ rfl) 1 _ rfl) Try.underlying48 rfl (by kernel_rfl)) rfl ?_
     rw [← HY.out]
     refine ⟨_, by first | rfl | simp [hlw, hlw'], Kd.R_set (Kd.R_set m2.out m1.out (by decide) 0 _) (blk_put m1.out 0 _ rfl) (by decide) 1 _, (m3.out.setCell (p := ⟨gr, 0, none⟩) (Nat.le_trans HB.out.size GR.out) _).setCell (p := ⟨gr, 1, none⟩) (Nat.le_trans HB.out.size GR.out) _, (m4.out.setCell (p := ⟨gr, 0, none⟩) (.inr GR.out) _).setCell (p := ⟨gr, 1, none⟩) (.inr GR.out) _, fun ok0 u0 xs0 h0 hp => ?_⟩
     obtain ⟨q1, q2⟩ := m5.out ok0 u0 xs0 h0 hp
     exact ⟨Kd.R_set (Kd.R_set q1 m1.out (by decide) 0 _) (blk_put m1.out 0 _ rfl) (by decide) 1 _, q2⟩
 ·rw [if_neg c3] at h
  cases h
theorem spec_l8Add.calls (a0_0 : Int) (P0_1_ : Nat → Prop) (u9000_ : Value) (l0_1 : List S56) (a1 a2 a3 r1 : Int) (r2 : List S56) (r3 : Int) (w0 w : World) (hB : Below w0.heap.size w0 w) (ho0_1 : Kd.R k56 56 w w0.heap.size P0_1_ u9000_ l0_1) (h : spec_l8Add.f a0_0 l0_1 a1 a2 a3 = some (r1, r2, r3)) :
  Calls Try.prog 130 #[.agg #[.int .i64 a0_0, u9000_], .int .i64 a1, .int .i64 a2, .int .i64 a3] w fun e w' => ∃ v1_ : Value, e = .returned (.tuple #[.agg #[.int .i64 r1, v1_], .int .i64 r3]) ∧ Kd.R k56 56 w' w0.heap.size (fun k_ => (P0_1_ k_ ∨ w.heap.size ≤ k_)) v1_ r2 ∧ Below w0.heap.size w0 w' ∧ Kept w w' (fun k_ => P0_1_ k_) := by
 refine (spec_l8Add.strong a0_0 (fun k_ => P0_1_ k_ ∨ w.heap.size ≤ k_) u9000_ l0_1 a1 a2 a3 r1 r2 r3 w0 w hB (Kd.R_mono ho0_1 (fun _ hk => .inl hk)) (fun _ hk => .inr hk) h).mono ?_
 rintro e w' ⟨v1, rfl, h1, h2, h3, _⟩
 exact ⟨v1, rfl, h1, h2, h3.mono (fun k hk => ho0_1.1 k hk)⟩

end Go.Proofs.Ytpcckoljocpchaa.QFnReorderBack
