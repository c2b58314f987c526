-- Written by a program of this session (mk.py). Lean checks it.
import Derived.Test.YtdigdhckbhlkmaaQFnGuessNextx0
import Derived.Test.YtdigdhckbhlkmaaQFnGuessNextx2
import Derived.Test.YtdigdhckbhlkmaaQFnGuessNextx8
namespace Go.Proofs.Ytdigdhckbhlkmaa.QFnGuessNext
open Go.RowKit Go.Proofs.YtdigdhckbhlkmaaW.PrintWords Go.Proofs.YtdigdhckbhlkmaaW.PrintLast Go.Proofs.YtdigdhckbhlkmaaW.PrintMore
attribute [local go_sem] max2_int min2_int max_two min_two max_three min_three max_four min_four   -- for this text's walks alone
set_option linter.unusedVariables false
set_option linter.unusedSimpArgs false

/-! ### spec_l20Draw: function 94 -/
mutual
def spec_l20Draw.l0 : Nat → Int → Int → List (S37) → Int → List Int → Int → Option ((List (S37)) × Int)
 | 0, _, _, _, _, _, _ => none
 | k + 1, x1, x2, x7, x8, x1000, x1001 => if x8 > 0 then ((spec_l40Rd_num.f k x1000 x1001 (([1, 1, 2, 3, 4, 5, 6, 7, 6, 7, 0] : List Int))).bind fun bt297 => (if bt297.1 ≥ 5 then (spec_l20Draw.j1 k x1 x2 x7 x8 bt297.1 (x2 == 0) x1000 bt297.2) else (spec_l20Draw.j1 k x1 x2 x7 x8 bt297.1 false x1000 bt297.2))) else (some (x7, x1001))
def spec_l20Draw.j1 : Nat → Int → Int → List (S37) → Int → Int → Bool → List Int → Int → Option ((List (S37)) × Int)
 | 0, _, _, _, _, _, _, _, _ => none
 | k + 1, x1, x2, x7, x8, x9, x27, x1000, x1001 => if x27 = true then (spec_l20Draw.j2 k x1 x2 x7 x8 3 x1000 x1001) else (spec_l20Draw.j2 k x1 x2 x7 x8 x9 x1000 x1001)
def spec_l20Draw.j2 : Nat → Int → Int → List (S37) → Int → Int → List Int → Int → Option ((List (S37)) × Int)
 | 0, _, _, _, _, _, _, _ => none
 | k + 1, x1, x2, x7, x8, x9, x1000, x1001 => if (x7.length : Int) = 0 then (spec_l20Draw.j3 k x1 x2 x7 x8 x9 true x1000 x1001 x9 0 0 0) else (spec_l20Draw.j3 k x1 x2 x7 x8 x9 (decide (x9 ≤ 1)) x1000 x1001 x9 0 0 0)
def spec_l20Draw.j3 : Nat → Int → Int → List (S37) → Int → Int → Bool → List Int → Int → Int → Int → Int → Int → Option ((List (S37)) × Int)
 | 0, _, _, _, _, _, _, _, _, _, _, _, _ => none
 | k + 1, x1, x2, x7, x8, x9, x36, x1000, x1001, x300000, x300001, x300002, x300003 => if x36 = true then ((spec_l40Rd_pick.f k x1000 x1001 x1).bind fun bt300 => (if x1 = 0 then (spec_l20Draw.j4 k x1 x2 x7 x8 true x1000 bt300.2 1 bt300.1 0 0) else (if x9 = 0 then (spec_l20Draw.j4 k x1 x2 x7 x8 (decide ((x7.length : Int) > 0)) x1000 bt300.2 1 bt300.1 0 0) else (spec_l20Draw.j4 k x1 x2 x7 x8 false x1000 bt300.2 1 bt300.1 0 0)))) else ((spec_l40Rd_pick.f k x1000 x1001 2).bind fun bt308 => ((spec_l40Rd_pick.f k x1000 bt308.2 (x7.length : Int)).bind fun bt310 => ((spec_l40Rd_pick.f k x1000 bt310.2 (x7.length : Int)).bind fun bt312 => ((spec_l20One.f x9).bind fun t314 => (if t314 = true then (spec_l20Draw.j5 k x1 x2 x7 x8 x9 x1000 bt312.2 x300000 x300001 (wrap64 ((wrap64 ((x7.length : Int) - 1)) - (wrap64 (bt308.1 * bt310.1)))) (wrap64 ((wrap64 ((x7.length : Int) - 1)) - (wrap64 (bt308.1 * bt310.1))))) else (spec_l20Draw.j5 k x1 x2 x7 x8 x9 x1000 bt312.2 x300000 x300001 (wrap64 ((wrap64 ((x7.length : Int) - 1)) - (wrap64 (bt308.1 * bt310.1)))) bt312.1))))))
def spec_l20Draw.j4 : Nat → Int → Int → List (S37) → Int → Bool → List Int → Int → Int → Int → Int → Int → Option ((List (S37)) × Int)
 | 0, _, _, _, _, _, _, _, _, _, _, _ => none
 | k + 1, x1, x2, x7, x8, x51, x1000, x1001, x300000, x300001, x300002, x300003 => if x51 = true then (if x7.length < 4398046511104 then (spec_l20Draw.l0 k x1 x2 (x7 ++ [(⟨0, 0, 0, 0⟩ : S37)]) (wrap64 (x8 - 1)) x1000 x1001) else (none)) else (if x7.length < 4398046511104 then (spec_l20Draw.l0 k x1 x2 (x7 ++ [(⟨x300000, x300001, x300002, x300003⟩ : S37)]) (wrap64 (x8 - 1)) x1000 x1001) else (none))
def spec_l20Draw.j5 : Nat → Int → Int → List (S37) → Int → Int → List Int → Int → Int → Int → Int → Int → Option ((List (S37)) × Int)
 | 0, _, _, _, _, _, _, _, _, _, _, _ => none
 | k + 1, x1, x2, x7, x8, x9, x1000, x1001, x300000, x300001, x300002, x300003 => if x9 ≥ 5 then (if x7.length < 4398046511104 then (spec_l20Draw.l0 k x1 (wrap64 (x2 - 1)) (x7 ++ [(⟨x300000, x300001, x300002, x300003⟩ : S37)]) (wrap64 (x8 - 1)) x1000 x1001) else (none)) else (if x7.length < 4398046511104 then (spec_l20Draw.l0 k x1 x2 (x7 ++ [(⟨x300000, x300001, x300002, x300003⟩ : S37)]) (wrap64 (x8 - 1)) x1000 x1001) else (none))
end
def spec_l20Draw.f (k : Nat) (s0_0 : List Int) (s0_1 : Int) (a1 : Int) (a2 : Int) : Option ((List (S37)) × Int) := (spec_l40Rd_pick.f k s0_0 s0_1 7).bind fun bt292 => (spec_l20Draw.l0 k a1 a2 (([] : List (S37))) (wrap64 (2 + bt292.1)) s0_0 bt292.2)
theorem spec_l20Draw.mono_l : ∀ k, (∀ y0 y1 y2 y3 y4 y5, LeO (spec_l20Draw.l0 k y0 y1 y2 y3 y4 y5) (spec_l20Draw.l0 (k + 1) y0 y1 y2 y3 y4 y5)) ∧ (∀ y0 y1 y2 y3 y4 y5 y6 y7, LeO (spec_l20Draw.j1 k y0 y1 y2 y3 y4 y5 y6 y7) (spec_l20Draw.j1 (k + 1) y0 y1 y2 y3 y4 y5 y6 y7)) ∧ (∀ y0 y1 y2 y3 y4 y5 y6, LeO (spec_l20Draw.j2 k y0 y1 y2 y3 y4 y5 y6) (spec_l20Draw.j2 (k + 1) y0 y1 y2 y3 y4 y5 y6)) ∧ (∀ y0 y1 y2 y3 y4 y5 y6 y7 y8 y9 y10 y11, LeO (spec_l20Draw.j3 k y0 y1 y2 y3 y4 y5 y6 y7 y8 y9 y10 y11) (spec_l20Draw.j3 (k + 1) y0 y1 y2 y3 y4 y5 y6 y7 y8 y9 y10 y11)) ∧ (∀ y0 y1 y2 y3 y4 y5 y6 y7 y8 y9 y10, LeO (spec_l20Draw.j4 k y0 y1 y2 y3 y4 y5 y6 y7 y8 y9 y10) (spec_l20Draw.j4 (k + 1) y0 y1 y2 y3 y4 y5 y6 y7 y8 y9 y10)) ∧ (∀ y0 y1 y2 y3 y4 y5 y6 y7 y8 y9 y10, LeO (spec_l20Draw.j5 k y0 y1 y2 y3 y4 y5 y6 y7 y8 y9 y10) (spec_l20Draw.j5 (k + 1) y0 y1 y2 y3 y4 y5 y6 y7 y8 y9 y10))
 | 0 => ⟨fun _ _ _ _ _ _ r h => by simp [spec_l20Draw.l0] at h, fun _ _ _ _ _ _ _ _ r h => by simp [spec_l20Draw.j1] at h, fun _ _ _ _ _ _ _ r h => by simp [spec_l20Draw.j2] at h, fun _ _ _ _ _ _ _ _ _ _ _ _ r h => by simp [spec_l20Draw.j3] at h, fun _ _ _ _ _ _ _ _ _ _ _ r h => by simp [spec_l20Draw.j4] at h, fun _ _ _ _ _ _ _ _ _ _ _ r h => by simp [spec_l20Draw.j5] at h⟩
 | k + 1 => by
  obtain ⟨ih0, ih1, ih2, ih3, ih4, ih5⟩ := spec_l20Draw.mono_l k
  refine ⟨?_, ?_, ?_, ?_, ?_, ?_⟩
  ·intro y0 y1 y2 y3 y4 y5
   unfold spec_l20Draw.l0
   repeat' first
   | (with_reducible exact ih0 _ _ _ _ _ _)
   | (with_reducible exact ih1 _ _ _ _ _ _ _ _)
   | (with_reducible exact ih2 _ _ _ _ _ _ _)
   | (with_reducible exact ih3 _ _ _ _ _ _ _ _ _ _ _ _)
   | (with_reducible exact ih4 _ _ _ _ _ _ _ _ _ _ _)
   | (with_reducible exact ih5 _ _ _ _ _ _ _ _ _ _ _)
   | (with_reducible exact spec_l40Rd_num.mono _ _ _ _)
   | (with_reducible exact spec_l40Rd_pick.mono _ _ _ _)
   | (with_reducible exact LeO.refl _)
   | (with_reducible exact LeO.none _)
   | (with_reducible refine LeO.ite ?_ ?_)
   | (with_reducible refine LeO.bind ?_ (fun _ => ?_))
   | exact ih0 _ _ _ _ _ _
   | exact ih1 _ _ _ _ _ _ _ _
   | exact ih2 _ _ _ _ _ _ _
   | exact ih3 _ _ _ _ _ _ _ _ _ _ _ _
   | exact ih4 _ _ _ _ _ _ _ _ _ _ _
   | exact ih5 _ _ _ _ _ _ _ _ _ _ _
   | exact spec_l40Rd_num.mono _ _ _ _
   | exact spec_l40Rd_pick.mono _ _ _ _
   | exact LeO.none _
   | refine LeO.ite ?_ ?_
   | refine LeO.bind ?_ (fun _ => ?_)
  ·intro y0 y1 y2 y3 y4 y5 y6 y7
   unfold spec_l20Draw.j1
   repeat' first
   | (with_reducible exact ih0 _ _ _ _ _ _)
   | (with_reducible exact ih1 _ _ _ _ _ _ _ _)
   | (with_reducible exact ih2 _ _ _ _ _ _ _)
   | (with_reducible exact ih3 _ _ _ _ _ _ _ _ _ _ _ _)
   | (with_reducible exact ih4 _ _ _ _ _ _ _ _ _ _ _)
   | (with_reducible exact ih5 _ _ _ _ _ _ _ _ _ _ _)
   | (with_reducible exact spec_l40Rd_num.mono _ _ _ _)
   | (with_reducible exact spec_l40Rd_pick.mono _ _ _ _)
   | (with_reducible exact LeO.refl _)
   | (with_reducible exact LeO.none _)
   | (with_reducible refine LeO.ite ?_ ?_)
   | (with_reducible refine LeO.bind ?_ (fun _ => ?_))
   | exact ih0 _ _ _ _ _ _
   | exact ih1 _ _ _ _ _ _ _ _
   | exact ih2 _ _ _ _ _ _ _
   | exact ih3 _ _ _ _ _ _ _ _ _ _ _ _
   | exact ih4 _ _ _ _ _ _ _ _ _ _ _
   | exact ih5 _ _ _ _ _ _ _ _ _ _ _
   | exact spec_l40Rd_num.mono _ _ _ _
   | exact spec_l40Rd_pick.mono _ _ _ _
   | exact LeO.none _
   | refine LeO.ite ?_ ?_
   | refine LeO.bind ?_ (fun _ => ?_)
  ·intro y0 y1 y2 y3 y4 y5 y6
   unfold spec_l20Draw.j2
   repeat' first
   | (with_reducible exact ih0 _ _ _ _ _ _)
   | (with_reducible exact ih1 _ _ _ _ _ _ _ _)
   | (with_reducible exact ih2 _ _ _ _ _ _ _)
   | (with_reducible exact ih3 _ _ _ _ _ _ _ _ _ _ _ _)
   | (with_reducible exact ih4 _ _ _ _ _ _ _ _ _ _ _)
   | (with_reducible exact ih5 _ _ _ _ _ _ _ _ _ _ _)
   | (with_reducible exact spec_l40Rd_num.mono _ _ _ _)
   | (with_reducible exact spec_l40Rd_pick.mono _ _ _ _)
   | (with_reducible exact LeO.refl _)
   | (with_reducible exact LeO.none _)
   | (with_reducible refine LeO.ite ?_ ?_)
   | (with_reducible refine LeO.bind ?_ (fun _ => ?_))
   | exact ih0 _ _ _ _ _ _
   | exact ih1 _ _ _ _ _ _ _ _
   | exact ih2 _ _ _ _ _ _ _
   | exact ih3 _ _ _ _ _ _ _ _ _ _ _ _
   | exact ih4 _ _ _ _ _ _ _ _ _ _ _
   | exact ih5 _ _ _ _ _ _ _ _ _ _ _
   | exact spec_l40Rd_num.mono _ _ _ _
   | exact spec_l40Rd_pick.mono _ _ _ _
   | exact LeO.none _
   | refine LeO.ite ?_ ?_
   | refine LeO.bind ?_ (fun _ => ?_)
  ·intro y0 y1 y2 y3 y4 y5 y6 y7 y8 y9 y10 y11
   unfold spec_l20Draw.j3
   repeat' first
   | (with_reducible exact ih0 _ _ _ _ _ _)
   | (with_reducible exact ih1 _ _ _ _ _ _ _ _)
   | (with_reducible exact ih2 _ _ _ _ _ _ _)
   | (with_reducible exact ih3 _ _ _ _ _ _ _ _ _ _ _ _)
   | (with_reducible exact ih4 _ _ _ _ _ _ _ _ _ _ _)
   | (with_reducible exact ih5 _ _ _ _ _ _ _ _ _ _ _)
   | (with_reducible exact spec_l40Rd_num.mono _ _ _ _)
   | (with_reducible exact spec_l40Rd_pick.mono _ _ _ _)
   | (with_reducible exact LeO.refl _)
   | (with_reducible exact LeO.none _)
   | (with_reducible refine LeO.ite ?_ ?_)
   | (with_reducible refine LeO.bind ?_ (fun _ => ?_))
   | exact ih0 _ _ _ _ _ _
   | exact ih1 _ _ _ _ _ _ _ _
   | exact ih2 _ _ _ _ _ _ _
   | exact ih3 _ _ _ _ _ _ _ _ _ _ _ _
   | exact ih4 _ _ _ _ _ _ _ _ _ _ _
   | exact ih5 _ _ _ _ _ _ _ _ _ _ _
   | exact spec_l40Rd_num.mono _ _ _ _
   | exact spec_l40Rd_pick.mono _ _ _ _
   | exact LeO.none _
   | refine LeO.ite ?_ ?_
   | refine LeO.bind ?_ (fun _ => ?_)
  ·intro y0 y1 y2 y3 y4 y5 y6 y7 y8 y9 y10
   unfold spec_l20Draw.j4
   repeat' first
   | (with_reducible exact ih0 _ _ _ _ _ _)
   | (with_reducible exact ih1 _ _ _ _ _ _ _ _)
   | (with_reducible exact ih2 _ _ _ _ _ _ _)
   | (with_reducible exact ih3 _ _ _ _ _ _ _ _ _ _ _ _)
   | (with_reducible exact ih4 _ _ _ _ _ _ _ _ _ _ _)
   | (with_reducible exact ih5 _ _ _ _ _ _ _ _ _ _ _)
   | (with_reducible exact spec_l40Rd_num.mono _ _ _ _)
   | (with_reducible exact spec_l40Rd_pick.mono _ _ _ _)
   | (with_reducible exact LeO.refl _)
   | (with_reducible exact LeO.none _)
   | (with_reducible refine LeO.ite ?_ ?_)
   | (with_reducible refine LeO.bind ?_ (fun _ => ?_))
   | exact ih0 _ _ _ _ _ _
   | exact ih1 _ _ _ _ _ _ _ _
   | exact ih2 _ _ _ _ _ _ _
   | exact ih3 _ _ _ _ _ _ _ _ _ _ _ _
   | exact ih4 _ _ _ _ _ _ _ _ _ _ _
   | exact ih5 _ _ _ _ _ _ _ _ _ _ _
   | exact spec_l40Rd_num.mono _ _ _ _
   | exact spec_l40Rd_pick.mono _ _ _ _
   | exact LeO.none _
   | refine LeO.ite ?_ ?_
   | refine LeO.bind ?_ (fun _ => ?_)
  ·intro y0 y1 y2 y3 y4 y5 y6 y7 y8 y9 y10
   unfold spec_l20Draw.j5
   repeat' first
   | (with_reducible exact ih0 _ _ _ _ _ _)
   | (with_reducible exact ih1 _ _ _ _ _ _ _ _)
   | (with_reducible exact ih2 _ _ _ _ _ _ _)
   | (with_reducible exact ih3 _ _ _ _ _ _ _ _ _ _ _ _)
   | (with_reducible exact ih4 _ _ _ _ _ _ _ _ _ _ _)
   | (with_reducible exact ih5 _ _ _ _ _ _ _ _ _ _ _)
   | (with_reducible exact spec_l40Rd_num.mono _ _ _ _)
   | (with_reducible exact spec_l40Rd_pick.mono _ _ _ _)
   | (with_reducible exact LeO.refl _)
   | (with_reducible exact LeO.none _)
   | (with_reducible refine LeO.ite ?_ ?_)
   | (with_reducible refine LeO.bind ?_ (fun _ => ?_))
   | exact ih0 _ _ _ _ _ _
   | exact ih1 _ _ _ _ _ _ _ _
   | exact ih2 _ _ _ _ _ _ _
   | exact ih3 _ _ _ _ _ _ _ _ _ _ _ _
   | exact ih4 _ _ _ _ _ _ _ _ _ _ _
   | exact ih5 _ _ _ _ _ _ _ _ _ _ _
   | exact spec_l40Rd_num.mono _ _ _ _
   | exact spec_l40Rd_pick.mono _ _ _ _
   | exact LeO.none _
   | refine LeO.ite ?_ ?_
   | refine LeO.bind ?_ (fun _ => ?_)
theorem spec_l20Draw.mono : ∀ a0 a1 a2 a3 k, LeO (spec_l20Draw.f k a0 a1 a2 a3) (spec_l20Draw.f (k + 1) a0 a1 a2 a3) := by
 intro a0 a1 a2 a3 k
 obtain ⟨ih0, ih1, ih2, ih3, ih4, ih5⟩ := spec_l20Draw.mono_l k
 unfold spec_l20Draw.f
 repeat' first
   | (with_reducible exact ih0 _ _ _ _ _ _)
   | (with_reducible exact ih1 _ _ _ _ _ _ _ _)
   | (with_reducible exact ih2 _ _ _ _ _ _ _)
   | (with_reducible exact ih3 _ _ _ _ _ _ _ _ _ _ _ _)
   | (with_reducible exact ih4 _ _ _ _ _ _ _ _ _ _ _)
   | (with_reducible exact ih5 _ _ _ _ _ _ _ _ _ _ _)
   | (with_reducible exact spec_l40Rd_num.mono _ _ _ _)
   | (with_reducible exact spec_l40Rd_pick.mono _ _ _ _)
   | (with_reducible exact LeO.refl _)
   | (with_reducible exact LeO.none _)
   | (with_reducible refine LeO.ite ?_ ?_)
   | (with_reducible refine LeO.bind ?_ (fun _ => ?_))
   | exact ih0 _ _ _ _ _ _
   | exact ih1 _ _ _ _ _ _ _ _
   | exact ih2 _ _ _ _ _ _ _
   | exact ih3 _ _ _ _ _ _ _ _ _ _ _ _
   | exact ih4 _ _ _ _ _ _ _ _ _ _ _
   | exact ih5 _ _ _ _ _ _ _ _ _ _ _
   | exact spec_l40Rd_num.mono _ _ _ _
   | exact spec_l40Rd_pick.mono _ _ _ _
   | exact LeO.none _
   | refine LeO.ite ?_ ?_
   | refine LeO.bind ?_ (fun _ => ?_)
set_option maxHeartbeats 8000000 in
set_option maxRecDepth 100000 in
theorem spec_l20Draw.calls (k : Nat) (g : Nat) (s0_0 : List Int) (s0_1 : Int) (a1 : Int) (a2 : Int) (r1 : List (S37)) (r2 : Int) (w0 w : World) (hI : IsS89 w0 w g s0_0 s0_1) (hB : Below w0.heap.size w0 w) (h : spec_l20Draw.f k s0_0 s0_1 a1 a2 = some (r1, r2)) :
  Calls Try.prog 94 #[.pointer (some ⟨g, 0, none⟩), .int .i64 a1, .int .i64 a2] w fun e w' => ∃ v0_ : Value, e = .returned (v0_) ∧ Kd.R k37 37 w' w.heap.size (fun _ => True) v0_ r1 ∧ IsS89 w0 w' g s0_0 r2 ∧ Below w0.heap.size w0 w' ∧ KeepBut w w' g none := by
 have hu37 := Try.underlying37
 have HI0 := Aside0.mk hI
 have HK := Aside0.mk (KeepBut.refl w g none)
 have HL := Aside0.mk hB.size
 clear hI
 have HW0 := Aside0.mk hB.size
 have HB := Aside0.mk hB
 clear hB
 have H : ((spec_l40Rd_pick.f k s0_0 s0_1 7).bind fun bt292 => (spec_l20Draw.l0 k a1 a2 (([] : List (S37))) (wrap64 (2 + bt292.1)) s0_0 bt292.2)) = some (r1, r2) := h
 clear h
 obtain ⟨y289, hy289⟩ : ∃ y_ : List (S37), y_ = (([] : List (S37))) := ⟨_, rfl⟩
 replace H : ((spec_l40Rd_pick.f k s0_0 s0_1 7).bind fun bt292 => (spec_l20Draw.l0 k a1 a2 y289 (wrap64 (2 + bt292.1)) s0_0 bt292.2)) = some (r1, r2) := by first | (rw [hy289]; with_reducible exact H) | (have H2_ := (Option.bind_some _ _).symm.trans H; rw [hy289]; with_reducible exact H2_) | (have H2_ := (Option.bind_some _ _).symm.trans H; with_reducible exact H2_) | with_reducible exact H | (rw [hy289]; exact H) | exact H
 have Ny289 := Aside0.mk hy289
 clear hy289
 replace H := Option.bind_eq_some_iff.mp H
 obtain ⟨⟨t292, t293⟩, A40, H⟩ := H
 replace H : (spec_l20Draw.l0 k a1 a2 y289 (wrap64 (2 + t292)) s0_0 t293) = some (r1, r2) := H
 have A4 := Aside0.mk A40
 clear A40
 have H' := Aside0.mk H
 clear H
 go_enter Try.func94, Try.ntmps94
 go_wp2_with (first | ((with_reducible refine gate_dst (N := 11) rfl ?_); (try (refine gate_guard (by rfl) ?_; dsimp only)); refine Kd.R_lit k37 _ 37 ?hg (N := 11) ?hd (xs := ([] : List (S37))) (inner := []) (ok := fun _ => True) (okp := fun _ => True) ?hr ?hp (fun _ hk => hk) trivial (Below.refl _ _) (Nat.le_refl _) (by simp) ?_; (case hd => rfl); (case hg => rfl); (case hr => first | (go_simp; done) | (go_simp; rfl)); (case hp => exact (Reps.none _ _)); intro v290 w5 ho6 hb hg_ hnew_; clear hg_ hnew_; (first | rw [← Ny289.out] at ho6 | (simp only [Int.reduceToNat] at ho6; rw [← Ny289.out] at ho6)); have n0_ := Aside0.mk (Kd.R_lower ho6 (keep_size (w := w) (g := g) (row := none) (by repeat (first | (with_reducible first | exact HK.out | apply KeepBut.set_ | apply keep_drewN | apply keep_drew | apply keep_alloc) | exact HK.out)))); have n1_ := Aside0.mk (IsS89.below (by repeat (first | (with_reducible first | exact HI0.out | apply IsS89.alloc | apply IsS89.drewN | apply IsS89.drew | apply IsS89.set_1) | exact HI0.out)) hb); have n2_ := Aside0.mk (KeepBut.trans (by repeat (first | (with_reducible first | exact HK.out | apply KeepBut.set_ | apply keep_drewN | apply keep_drew | apply keep_alloc) | exact HK.out)) (KeepBut.of_below hb g none) (.inl rfl)); have n3_ := Aside0.mk (below_step (by repeat (first | (with_reducible first | exact HB.out | apply bwA | apply bwN | apply bwD | refine below_set ?_ (IsS89.ge HI0.out)) | exact HB.out)) hb); clear HI0; clear HK; clear HB; have HO291 := n0_; have HI0 := n1_; have HK := n2_; have HB := n3_; clear n0_ n1_ n2_ n3_; clear hb ho6) | ((with_reducible refine gate_callee (f := 81) rfl ?_); refine goesL_ (some 13) rfl rfl Try.func81 (by kernel_rfl) rfl #[.pointer (some ⟨g, 0, none⟩), .int .i64 7] rfl lmB ?_; (with_reducible refine (spec_l40Rd_pick.calls k g s0_0 s0_1 7 t292 t293 w0 _ ?side1 ?side2 A4.out).mono ?_); (case side1 => repeat (first | (with_reducible first | exact HI0.out | apply IsS89.alloc | apply IsS89.drewN | apply IsS89.drew | apply IsS89.set_1) | exact HI0.out)); (case side2 => repeat (first | (with_reducible first | exact HB.out | apply bwA | apply bwN | apply bwD | refine below_set ?_ (IsS89.ge HI0.out)) | exact HB.out)); rintro e w7 ⟨rfl, hi, hb, hk⟩; refine ⟨_, rfl, ?_⟩; have n0_ := Aside0.mk (Kd.R_mono (Kd.R_keep (IsS89.apart (show IsS89 w0 _ g s0_0 s0_1 from by repeat (first | (with_reducible first | exact HI0.out | apply IsS89.alloc | apply IsS89.drewN | apply IsS89.drew | apply IsS89.set_1) | exact HI0.out)) (rvR HO291.out) (by decide)) hk (fun _ h => h.2)) (fun _ h => h.1)); have n1_ := Aside0.mk (KeepBut.trans (by repeat (first | (with_reducible first | exact HK.out | apply KeepBut.set_ | apply keep_drewN | apply keep_drew | apply keep_alloc) | exact HK.out)) hk (.inl rfl)); have n2_ := Aside0.mk (hb); have n3_ := Aside0.mk (hi); clear HO291; clear HK; clear HB; clear HI0; have HO291 := n0_; have HK := n1_; have HB := n2_; have HI0 := n3_; clear n0_ n1_ n2_ n3_; (try clear hb); (try clear hb2); (try clear hk); (try clear hi)))
 go_loopg [2, 7, 8] k (fun kq v2 v7 v8 w' => ∃ (x2_1 : Int) (x7_1 : List (S37)) (x8_1 : Int) (x1001_1 : Int), v2 = .int .i64 x2_1 ∧ v8 = .int .i64 x8_1 ∧ Aside0 (spec_l20Draw.l0 kq a1 x2_1 x7_1 x8_1 s0_0 x1001_1 = some (r1, r2)) ∧ Aside0 (kq ≤ k) ∧ Aside0 (Kd.R k37 37 w' w.heap.size (fun _ => True) v7 x7_1) ∧ Aside0 (IsS89 w0 w' g s0_0 x1001_1) ∧ Aside0 (KeepBut w w' g none) ∧ Aside0 (Below w0.heap.size w0 w'))
 case atStart => exact ⟨(a2), (y289), (wrap64 (2 + t292)), (t293), rsd, rsd, H', ⟨Nat.le_refl _⟩, ⟨rvR HO291.out⟩, ⟨by repeat (first | (with_reducible first | exact HI0.out | apply IsS89.alloc | apply IsS89.drewN | apply IsS89.drew | apply IsS89.set_1) | exact HI0.out)⟩, ⟨by repeat (first | (with_reducible first | exact HK.out | apply KeepBut.set_ | apply keep_drewN | apply keep_drew | apply keep_alloc) | exact HK.out)⟩, ⟨by repeat (first | (with_reducible first | exact HB.out | apply bwA | apply bwN | apply bwD | refine below_set ?_ (IsS89.ge HI0.out)) | exact HB.out)⟩⟩
 case round =>
  clear H'
  try clear p2
  try clear p6
  obtain ⟨x2_1, x7_1, x8_1, x1001_1, rfl, rfl, HA, HK1, HO_7, HI0, HK, HB⟩ := hrel
  cases gk with
  | zero => exact absurd HA.out (by simp [spec_l20Draw.l0])
  | succ k1 =>
   have H := HA.out
   clear HA
   simp only [spec_l20Draw.l0] at H
   by_cases c8 : x8_1 > 0
   ·rw [if_pos c8] at H
    have c8b0 : decide (0 < x8_1) = true := decide_eq_true c8
    clear c8
    obtain ⟨y294, hy294⟩ : ∃ y_ : List Int, y_ = (([1, 1, 2, 3, 4, 5, 6, 7, 6, 7, 0] : List Int)) := ⟨_, rfl⟩
    replace H : ((spec_l40Rd_num.f k1 s0_0 x1001_1 y294).bind fun bt297 => (if bt297.1 ≥ 5 then (spec_l20Draw.j1 k1 a1 x2_1 x7_1 x8_1 bt297.1 (x2_1 == 0) s0_0 bt297.2) else (spec_l20Draw.j1 k1 a1 x2_1 x7_1 x8_1 bt297.1 false s0_0 bt297.2))) = some (r1, r2) := by first | (rw [hy294]; with_reducible exact H) | (have H2_ := (Option.bind_some _ _).symm.trans H; rw [hy294]; with_reducible exact H2_) | (have H2_ := (Option.bind_some _ _).symm.trans H; with_reducible exact H2_) | with_reducible exact H | (rw [hy294]; exact H) | exact H
    have Ny294 := Aside0.mk hy294
    clear hy294
    replace H := Option.bind_eq_some_iff.mp H
    obtain ⟨⟨t297, t298⟩, A90, H⟩ := H
    replace H : (if t297 ≥ 5 then (spec_l20Draw.j1 k1 a1 x2_1 x7_1 x8_1 t297 (x2_1 == 0) s0_0 t298) else (spec_l20Draw.j1 k1 a1 x2_1 x7_1 x8_1 t297 false s0_0 t298)) = some (r1, r2) := H
    have A9 := Aside0.mk A90
    clear A90
    have HC10 := Aside0.mk H
    clear H
    go_upto_region 6 with (first | ((with_reducible refine gate_dst (N := 20) rfl ?_); (try (refine gate_guard (by rfl) ?_; dsimp only)); refine Kd.R_lit (Kd.int .i64) _ 3 ?hg (N := 20) ?hd (xs := ([1, 1, 2, 3, 4, 5, 6, 7, 6, 7, 0] : List Int)) (inner := [.int .i64 1, .int .i64 1, .int .i64 2, .int .i64 3, .int .i64 4, .int .i64 5, .int .i64 6, .int .i64 7, .int .i64 6, .int .i64 7, .int .i64 0]) (ok := fun _ => True) (okp := fun _ => True) ?hr ?hp (fun _ hk => hk) trivial (Below.refl _ _) (Nat.le_refl _) (by simp) ?_; (case hd => rfl); (case hg => rfl); (case hr => first | (go_simp; done) | (go_simp; rfl)); (case hp => exact (Reps.one (show Kd.M (Kd.int .i64) _ _ _ 1 [.int .i64 1] from rfl) (Reps.one (show Kd.M (Kd.int .i64) _ _ _ 1 [.int .i64 1] from rfl) (Reps.one (show Kd.M (Kd.int .i64) _ _ _ 2 [.int .i64 2] from rfl) (Reps.one (show Kd.M (Kd.int .i64) _ _ _ 3 [.int .i64 3] from rfl) (Reps.one (show Kd.M (Kd.int .i64) _ _ _ 4 [.int .i64 4] from rfl) (Reps.one (show Kd.M (Kd.int .i64) _ _ _ 5 [.int .i64 5] from rfl) (Reps.one (show Kd.M (Kd.int .i64) _ _ _ 6 [.int .i64 6] from rfl) (Reps.one (show Kd.M (Kd.int .i64) _ _ _ 7 [.int .i64 7] from rfl) (Reps.one (show Kd.M (Kd.int .i64) _ _ _ 6 [.int .i64 6] from rfl) (Reps.one (show Kd.M (Kd.int .i64) _ _ _ 7 [.int .i64 7] from rfl) (Reps.one (show Kd.M (Kd.int .i64) _ _ _ 0 [.int .i64 0] from rfl) (Reps.none _ _))))))))))))); intro v295 w11 ho12 hb hg_ hnew_; clear hg_ hnew_; (first | rw [← Ny294.out] at ho12 | (simp only [Int.reduceToNat] at ho12; rw [← Ny294.out] at ho12)); have n0_ := Aside0.mk (Kd.R_below (rvR HO_7.out) hb); have n1_ := Aside0.mk (Kd.R_lower ho12 (keep_size (w := w) (g := g) (row := none) (by repeat (first | (with_reducible first | exact HK.out | apply KeepBut.set_ | apply keep_drewN | apply keep_drew | apply keep_alloc) | exact HK.out)))); have n2_ := Aside0.mk (IsS89.below (by repeat (first | (with_reducible first | exact HI0.out | apply IsS89.alloc | apply IsS89.drewN | apply IsS89.drew | apply IsS89.set_1) | exact HI0.out)) hb); have n3_ := Aside0.mk (KeepBut.trans (by repeat (first | (with_reducible first | exact HK.out | apply KeepBut.set_ | apply keep_drewN | apply keep_drew | apply keep_alloc) | exact HK.out)) (KeepBut.of_below hb g none) (.inl rfl)); have n4_ := Aside0.mk (below_step (by repeat (first | (with_reducible first | exact HB.out | apply bwA | apply bwN | apply bwD | refine below_set ?_ (IsS89.ge HI0.out)) | exact HB.out)) hb); clear HO_7; clear HI0; clear HK; clear HB; have HO_7 := n0_; have HO296 := n1_; have HI0 := n2_; have HK := n3_; have HB := n4_; clear n0_ n1_ n2_ n3_ n4_; clear hb ho12; obtain ⟨Ao13, co13, eo13⟩ := Kd.R_slice HO296.out; subst eo13) | ((with_reducible refine gate_callee (f := 79) rfl ?_); refine goesL_ (some 21) rfl rfl Try.func79 (by kernel_rfl) rfl #[.pointer (some ⟨g, 0, none⟩), .slice Ao13 y294.length co13] rfl lmB ?_; (with_reducible refine (spec_l40Rd_num.calls k1 g s0_0 x1001_1 _ _ y294 t297 t298 w0 _ ?side1 ?side2 ?side3 ?side4 ?side5 A9.out).mono ?_); (case side1 => repeat (first | (with_reducible first | exact HI0.out | apply IsS89.alloc | apply IsS89.drewN | apply IsS89.drew | apply IsS89.set_1) | exact HI0.out)); (case side2 => repeat (first | (with_reducible first | exact HB.out | apply bwA | apply bwN | apply bwD | refine below_set ?_ (IsS89.ge HI0.out)) | exact HB.out)); (case side3 => repeat (first | exact (Kd.R_reads' HO296.out).2.2 | (with_reducible refine Kd.C_alloc ?_ _) | (with_reducible refine Kd.C_drewN ?_ _) | (with_reducible refine Kd.C_drew ?_))); (case side4 => exact (Kd.R_reads' HO296.out).2.1); (case side5 => exact far_slice (IsS89.own_ne HI0.out HO296.out (by decide))); rintro e w14 ⟨rfl, hi, hb, hk⟩; refine ⟨_, rfl, ?_⟩; have n0_ := Aside0.mk (Kd.R_mono (Kd.R_keep (IsS89.apart (show IsS89 w0 _ g s0_0 x1001_1 from by repeat (first | (with_reducible first | exact HI0.out | apply IsS89.alloc | apply IsS89.drewN | apply IsS89.drew | apply IsS89.set_1) | exact HI0.out)) (rvR HO_7.out) (by decide)) hk (fun _ h => h.2)) (fun _ h => h.1)); have n1_ := Aside0.mk (Kd.R_mono (Kd.R_keep (IsS89.apart (show IsS89 w0 _ g s0_0 x1001_1 from by repeat (first | (with_reducible first | exact HI0.out | apply IsS89.alloc | apply IsS89.drewN | apply IsS89.drew | apply IsS89.set_1) | exact HI0.out)) (rvR HO296.out) (by decide)) hk (fun _ h => h.2)) (fun _ h => h.1)); have n2_ := Aside0.mk (KeepBut.trans (by repeat (first | (with_reducible first | exact HK.out | apply KeepBut.set_ | apply keep_drewN | apply keep_drew | apply keep_alloc) | exact HK.out)) hk (.inl rfl)); have n3_ := Aside0.mk (hb); have n4_ := Aside0.mk (hi); clear HO_7; clear HO296; clear HK; clear HB; clear HI0; have HO_7 := n0_; have HO296 := n1_; have HK := n2_; have HB := n3_; have HI0 := n4_; clear n0_ n1_ n2_ n3_ n4_; (try clear hb); (try clear hb2); (try clear hk); (try clear hi)))
    (try simp only [Act.put, List.setIfInBounds_toArray, List.set_cons_zero, List.set_cons_succ])
    go_cut [27] (fun v27 wc => ∃ (kq : Nat) (x27_9 : Bool), v27 = .bool x27_9 ∧ Aside0 (spec_l20Draw.j1 kq a1 x2_1 x7_1 x8_1 t297 x27_9 s0_0 t298 = some (r1, r2)) ∧ Aside0 (kq ≤ k1) ∧ Aside0 (Kd.R k37 37 wc w.heap.size (fun _ => True) u7 x7_1) ∧ Aside0 (IsS89 w0 wc g s0_0 t298) ∧ Aside0 (KeepBut w wc g none) ∧ Aside0 (Below w0.heap.size w0 wc))
    case first =>
     have H := HC10.out
     clear HC10
     by_cases c15 : t297 ≥ 5
     ·rw [if_pos c15] at H
      have c15b0 : decide (5 ≤ t297) = true := decide_eq_true c15
      clear c15
      (first | rw [c15b0] | (simp only [i64_w, i32_w]; rw [c15b0]) | skip)
      have H' := Aside0.mk H
      clear H
      go_wp2
      go_meet
      case rel => exact ⟨_, ((x2_1 == 0)), rsd, H', ⟨by have := HK1.out; first | omega | exact Nat.le_refl _⟩, ⟨rvR HO_7.out⟩, ⟨by repeat (first | (with_reducible first | exact HI0.out | apply IsS89.alloc | apply IsS89.drewN | apply IsS89.drew | apply IsS89.set_1) | exact HI0.out)⟩, ⟨by repeat (first | (with_reducible first | exact HK.out | apply KeepBut.set_ | apply keep_drewN | apply keep_drew | apply keep_alloc) | exact HK.out)⟩, ⟨by repeat (first | (with_reducible first | exact HB.out | apply bwA | apply bwN | apply bwD | refine below_set ?_ (IsS89.ge HI0.out)) | exact HB.out)⟩⟩
     ·rw [if_neg c15] at H
      have c15b0 : decide (5 ≤ t297) = false := decide_eq_false c15
      clear c15
      (first | rw [c15b0] | (simp only [i64_w, i32_w]; rw [c15b0]) | skip)
      have H' := Aside0.mk H
      clear H
      go_wp2
      go_meet
      case rel => exact ⟨_, (false), rsd, H', ⟨by have := HK1.out; first | omega | exact Nat.le_refl _⟩, ⟨rvR HO_7.out⟩, ⟨by repeat (first | (with_reducible first | exact HI0.out | apply IsS89.alloc | apply IsS89.drewN | apply IsS89.drew | apply IsS89.set_1) | exact HI0.out)⟩, ⟨by repeat (first | (with_reducible first | exact HK.out | apply KeepBut.set_ | apply keep_drewN | apply keep_drew | apply keep_alloc) | exact HK.out)⟩, ⟨by repeat (first | (with_reducible first | exact HB.out | apply bwA | apply bwN | apply bwD | refine below_set ?_ (IsS89.ge HI0.out)) | exact HB.out)⟩⟩
    case rest =>
     clear HC10
     try clear c1
     try clear p2
     try clear p6
     try clear c7
     try clear c8
     try clear c8b0
     try clear c9
     try clear c15
     try clear c15b0
     try clear p2
     try clear p6
     obtain ⟨kq, x27_9, rfl, HA, HJ9, HO_7, HI0, HK, HB⟩ := hcut
     cases kq with
     | zero => exact absurd HA.out (by simp [spec_l20Draw.j1])
     | succ kj9 =>
      have H := HA.out
      clear HA
      simp only [spec_l20Draw.j1] at H
      have HC16 := Aside0.mk H
      clear H
      go_upto_if 27 with (fail)
      go_cut [9] (fun v9 wc => ∃ (kq : Nat) (x9_15 : Int), v9 = .int .i64 x9_15 ∧ Aside0 (spec_l20Draw.j2 kq a1 x2_1 x7_1 x8_1 x9_15 s0_0 t298 = some (r1, r2)) ∧ Aside0 (kq ≤ kj9) ∧ Aside0 (Kd.R k37 37 wc w.heap.size (fun _ => True) u7 x7_1) ∧ Aside0 (IsS89 w0 wc g s0_0 t298) ∧ Aside0 (KeepBut w wc g none) ∧ Aside0 (Below w0.heap.size w0 wc))
      case first =>
       have H := HC16.out
       clear HC16
       by_cases c17 : x27_9 = true
       ·subst c17
        have H1 : (spec_l20Draw.j2 kj9 a1 x2_1 x7_1 x8_1 3 s0_0 t298) = some (r1, r2) := by rw [if_pos rfl] at H; exact H
        clear H
        have H := H1
        clear H1
        have H' := Aside0.mk H
        clear H
        go_wp2
        go_meet
        case rel => exact ⟨_, (3), rsd, H', ⟨by have := HK1.out; have := HJ9.out; first | omega | exact Nat.le_refl _⟩, ⟨rvR HO_7.out⟩, ⟨by repeat (first | (with_reducible first | exact HI0.out | apply IsS89.alloc | apply IsS89.drewN | apply IsS89.drew | apply IsS89.set_1) | exact HI0.out)⟩, ⟨by repeat (first | (with_reducible first | exact HK.out | apply KeepBut.set_ | apply keep_drewN | apply keep_drew | apply keep_alloc) | exact HK.out)⟩, ⟨by repeat (first | (with_reducible first | exact HB.out | apply bwA | apply bwN | apply bwD | refine below_set ?_ (IsS89.ge HI0.out)) | exact HB.out)⟩⟩
       ·replace c17 := Bool.eq_false_iff.mpr c17
        subst c17
        have H1 : (spec_l20Draw.j2 kj9 a1 x2_1 x7_1 x8_1 t297 s0_0 t298) = some (r1, r2) := by rw [if_neg (show ¬ (false = true) by decide)] at H; exact H
        clear H
        have H := H1
        clear H1
        have H' := Aside0.mk H
        clear H
        go_wp2
        go_meet
        case rel => exact ⟨_, (t297), rsd, H', ⟨by have := HK1.out; have := HJ9.out; first | omega | exact Nat.le_refl _⟩, ⟨rvR HO_7.out⟩, ⟨by repeat (first | (with_reducible first | exact HI0.out | apply IsS89.alloc | apply IsS89.drewN | apply IsS89.drew | apply IsS89.set_1) | exact HI0.out)⟩, ⟨by repeat (first | (with_reducible first | exact HK.out | apply KeepBut.set_ | apply keep_drewN | apply keep_drew | apply keep_alloc) | exact HK.out)⟩, ⟨by repeat (first | (with_reducible first | exact HB.out | apply bwA | apply bwN | apply bwD | refine below_set ?_ (IsS89.ge HI0.out)) | exact HB.out)⟩⟩
      case rest =>
       clear HC16
       try clear c1
       try clear p2
       try clear p6
       try clear c7
       try clear c8
       try clear c8b0
       try clear c9
       try clear c15
       try clear c15b0
       try clear c17
       try clear p2
       try clear p6
       obtain ⟨kq, x9_15, rfl, HA, HJ15, HO_7, HI0, HK, HB⟩ := hcut
       cases kq with
       | zero => exact absurd HA.out (by simp [spec_l20Draw.j2])
       | succ kj15 =>
        have H := HA.out
        clear HA
        simp only [spec_l20Draw.j2] at H
        have HC18 := Aside0.mk H
        clear H
        go_upto_region 9 with (first | ((with_reducible refine gate_dst (N := 10) rfl ?_); (try (refine gate_guard (by rfl) ?_; dsimp only)); refine box_event ?hg (N := 10) ?hd (cs := #[.int .i64 0, .int .i64 0, .int .i64 0, .int .i64 0]) (t := 37) ?hr ?_; (case hd => rfl); (case hg => rfl); (case hr => first | (go_simp; done) | (go_simp; rfl)); intro gb299 hg w19 hbox hb; have n0_ := Aside0.mk (Kd.R_below (Kd.R_elderB (rvR HO_7.out) gb299 (Nat.le_of_eq hg.symm)) hb); have n1_ := Aside0.mk (IsS89.below (by repeat (first | (with_reducible first | exact HI0.out | apply IsS89.alloc | apply IsS89.drewN | apply IsS89.drew | apply IsS89.set_1) | exact HI0.out)) hb); have n2_ := Aside0.mk (KeepBut.trans (by repeat (first | (with_reducible first | exact HK.out | apply KeepBut.set_ | apply keep_drewN | apply keep_drew | apply keep_alloc) | exact HK.out)) (KeepBut.of_below hb g none) (.inl rfl)); have n3_ := Aside0.mk (below_step (by repeat (first | (with_reducible first | exact HB.out | apply bwA | apply bwN | apply bwD | refine below_set ?_ (IsS89.ge HI0.out)) | exact HB.out)) hb); have n4_ := Aside0.mk (hbox); have n5_ := Aside0.mk ((by rw [hg]; exact (keep_size (w := w) (g := g) (row := none) (by repeat (first | (with_reducible first | exact HK.out | apply KeepBut.set_ | apply keep_drewN | apply keep_drew | apply keep_alloc) | exact HK.out))) : w.heap.size ≤ gb299)); have n6_ := Aside0.mk ((Nat.le_trans HW0.out (by rw [hg]; exact (keep_size (w := w) (g := g) (row := none) (by repeat (first | (with_reducible first | exact HK.out | apply KeepBut.set_ | apply keep_drewN | apply keep_drew | apply keep_alloc) | exact HK.out))) : w.heap.size ≤ gb299) : w0.heap.size ≤ gb299)); have n7_ := Aside0.mk ((by rw [hg]; exact Nat.ne_of_lt (IsS89.lt (show IsS89 w0 _ g s0_0 t298 from by repeat (first | (with_reducible first | exact HI0.out | apply IsS89.alloc | apply IsS89.drewN | apply IsS89.drew | apply IsS89.set_1) | exact HI0.out))) : g ≠ gb299)); have n8_ := Aside0.mk ((by rw [hg]; exact Nat.ne_of_gt (IsS89.lt (show IsS89 w0 _ g s0_0 t298 from by repeat (first | (with_reducible first | exact HI0.out | apply IsS89.alloc | apply IsS89.drewN | apply IsS89.drew | apply IsS89.set_1) | exact HI0.out))) : gb299 ≠ g)); clear HO_7; clear HI0; clear HK; clear HB; have HO_7 := n0_; have HI0 := n1_; have HK := n2_; have HB := n3_; have BK299 := n4_; have GW299 := n5_; have GE299 := n6_; have NB0_299 := n7_; have NB299_0 := n8_; clear n0_ n1_ n2_ n3_ n4_ n5_ n6_ n7_ n8_; clear hb hbox hg; have hnb20 := NB299_0.out; have hnc20 := NB0_299.out; have hcz21_0 : w19.cell? ⟨gb299, 0, none⟩ = some (.int .i64 0) := (blk_cell BK299.out 0).trans rfl; have hcz21_1 : w19.cell? ⟨gb299, 1, none⟩ = some (.int .i64 0) := (blk_cell BK299.out 1).trans rfl; have hcz21_2 : w19.cell? ⟨gb299, 2, none⟩ = some (.int .i64 0) := (blk_cell BK299.out 2).trans rfl; have hcz21_3 : w19.cell? ⟨gb299, 3, none⟩ = some (.int .i64 0) := (blk_cell BK299.out 3).trans rfl; have hfz21_0 := blk_frozen BK299.out 0; have hfz21_1 := blk_frozen BK299.out 1; have hfz21_2 := blk_frozen BK299.out 2; have hfz21_3 := blk_frozen BK299.out 3))
        (try simp only [Act.put, List.setIfInBounds_toArray, List.set_cons_zero, List.set_cons_succ])
        go_cut [36] (fun v36 wc => ∃ (kq : Nat) (x36_17 : Bool), v36 = .bool x36_17 ∧ Aside0 (spec_l20Draw.j3 kq a1 x2_1 x7_1 x8_1 x9_15 x36_17 s0_0 t298 x9_15 0 0 0 = some (r1, r2)) ∧ Aside0 (kq ≤ kj15) ∧ Aside0 (Kd.R k37 37 wc w.heap.size (fun k_ => k_ ≠ gb299) u7 x7_1) ∧ Aside0 (wc.heap[gb299]? = some (.cells #[.int .i64 x9_15, .int .i64 0, .int .i64 0, .int .i64 0] 37 (0, 0))) ∧ Aside0 (IsS89 w0 wc g s0_0 t298) ∧ Aside0 (KeepBut w wc g none) ∧ Aside0 (Below w0.heap.size w0 wc))
        case first =>
         have H := HC18.out
         clear HC18
         by_cases c22 : (x7_1.length : Int) = 0
         ·rw [if_pos c22] at H
          have c22b0 : ((x7_1.length : Int) == 0) = true := beq_iff_eq.mpr c22
          have c22b1 : ((x7_1.length : Int) != 0) = false := bne_eq_false_iff_eq.mpr c22
          clear c22
          (first | rw [c22b0] | (simp only [i64_w, i32_w]; rw [c22b0]) | skip)
          have H' := Aside0.mk H
          clear H
          obtain ⟨Ao23, co23, eo23⟩ := Kd.R_slice HO_7.out
          subst eo23
          go_wp2
          go_meet
          case rel => exact ⟨_, (true), rsd, H', ⟨by have := HK1.out; have := HJ9.out; have := HJ15.out; first | omega | exact Nat.le_refl _⟩, ⟨by (with_reducible repeat (first | apply Kd.R_alloc | apply Kd.R_drewN | apply Kd.R_drew)); exact Kd.R_mono (Kd.R_far (p := ⟨gb299, 3, none⟩) (Kd.R_far (p := ⟨gb299, 2, none⟩) (Kd.R_far (p := ⟨gb299, 1, none⟩) (Kd.R_far (p := ⟨gb299, 0, none⟩) (Kd.R_mono HO_7.out (fun k_ hk => (⟨hk, hk.2⟩ : _ ∧ k_ ≠ gb299))) (fun _ hk => hk.2) (.int .i64 x9_15)) (fun _ hk => hk.2) (.int .i64 0)) (fun _ hk => hk.2) (.int .i64 0)) (fun _ hk => hk.2) (.int .i64 0)) (fun _ hk => hk.1.2)⟩, ⟨by (with_reducible repeat (first | refine blk_drewN ?_ _ | refine blk_drew ?_ | refine blk_alloc ?_ _)); refine blk_put (cs := #[.int .i64 x9_15, .int .i64 0, .int .i64 0, .int .i64 0]) ?_ 3 _ rfl; (with_reducible repeat (first | refine blk_drewN ?_ _ | refine blk_drew ?_ | refine blk_alloc ?_ _)); refine blk_put (cs := #[.int .i64 x9_15, .int .i64 0, .int .i64 0, .int .i64 0]) ?_ 2 _ rfl; (with_reducible repeat (first | refine blk_drewN ?_ _ | refine blk_drew ?_ | refine blk_alloc ?_ _)); refine blk_put (cs := #[.int .i64 x9_15, .int .i64 0, .int .i64 0, .int .i64 0]) ?_ 1 _ rfl; (with_reducible repeat (first | refine blk_drewN ?_ _ | refine blk_drew ?_ | refine blk_alloc ?_ _)); refine blk_put (cs := #[.int .i64 0, .int .i64 0, .int .i64 0, .int .i64 0]) ?_ 0 _ rfl; (with_reducible repeat (first | refine blk_drewN ?_ _ | refine blk_drew ?_ | refine blk_alloc ?_ _)); exact BK299.out⟩, ⟨by repeat (first | (with_reducible first | exact HI0.out | apply IsS89.alloc | apply IsS89.drewN | apply IsS89.drew | apply IsS89.set_1 | refine IsS89.far ?_ NB0_299.out _) | exact HI0.out)⟩, ⟨by repeat (first | (with_reducible first | exact HK.out | apply KeepBut.set_ | apply keep_drewN | apply keep_drew | apply keep_alloc | refine keep_far ?_ GW299.out _) | exact HK.out)⟩, ⟨by repeat (first | (with_reducible first | exact HB.out | apply bwA | apply bwN | apply bwD | refine below_set ?_ (IsS89.ge HI0.out) | refine below_set ?_ GE299.out) | exact HB.out)⟩⟩
         ·rw [if_neg c22] at H
          have c22b0 : ((x7_1.length : Int) == 0) = false := beq_eq_false_iff_ne.mpr c22
          have c22b1 : ((x7_1.length : Int) != 0) = true := bne_iff_ne.mpr c22
          have c22b2 : ¬ (x7_1 = []) := fun h_ => c22 (by rw [h_]; rfl)
          (first | rw [c22b0] | (simp only [i64_w, i32_w]; rw [c22b0]) | skip)
          have H' := Aside0.mk H
          clear H
          obtain ⟨Ao24, co24, eo24⟩ := Kd.R_slice HO_7.out
          subst eo24
          go_wp2
          go_meet
          case rel => exact ⟨_, (decide (x9_15 ≤ 1)), rsd, H', ⟨by have := HK1.out; have := HJ9.out; have := HJ15.out; first | omega | exact Nat.le_refl _⟩, ⟨by (with_reducible repeat (first | apply Kd.R_alloc | apply Kd.R_drewN | apply Kd.R_drew)); exact Kd.R_mono (Kd.R_far (p := ⟨gb299, 3, none⟩) (Kd.R_far (p := ⟨gb299, 2, none⟩) (Kd.R_far (p := ⟨gb299, 1, none⟩) (Kd.R_far (p := ⟨gb299, 0, none⟩) (Kd.R_mono HO_7.out (fun k_ hk => (⟨hk, hk.2⟩ : _ ∧ k_ ≠ gb299))) (fun _ hk => hk.2) (.int .i64 x9_15)) (fun _ hk => hk.2) (.int .i64 0)) (fun _ hk => hk.2) (.int .i64 0)) (fun _ hk => hk.2) (.int .i64 0)) (fun _ hk => hk.1.2)⟩, ⟨by (with_reducible repeat (first | refine blk_drewN ?_ _ | refine blk_drew ?_ | refine blk_alloc ?_ _)); refine blk_put (cs := #[.int .i64 x9_15, .int .i64 0, .int .i64 0, .int .i64 0]) ?_ 3 _ rfl; (with_reducible repeat (first | refine blk_drewN ?_ _ | refine blk_drew ?_ | refine blk_alloc ?_ _)); refine blk_put (cs := #[.int .i64 x9_15, .int .i64 0, .int .i64 0, .int .i64 0]) ?_ 2 _ rfl; (with_reducible repeat (first | refine blk_drewN ?_ _ | refine blk_drew ?_ | refine blk_alloc ?_ _)); refine blk_put (cs := #[.int .i64 x9_15, .int .i64 0, .int .i64 0, .int .i64 0]) ?_ 1 _ rfl; (with_reducible repeat (first | refine blk_drewN ?_ _ | refine blk_drew ?_ | refine blk_alloc ?_ _)); refine blk_put (cs := #[.int .i64 0, .int .i64 0, .int .i64 0, .int .i64 0]) ?_ 0 _ rfl; (with_reducible repeat (first | refine blk_drewN ?_ _ | refine blk_drew ?_ | refine blk_alloc ?_ _)); exact BK299.out⟩, ⟨by repeat (first | (with_reducible first | exact HI0.out | apply IsS89.alloc | apply IsS89.drewN | apply IsS89.drew | apply IsS89.set_1 | refine IsS89.far ?_ NB0_299.out _) | exact HI0.out)⟩, ⟨by repeat (first | (with_reducible first | exact HK.out | apply KeepBut.set_ | apply keep_drewN | apply keep_drew | apply keep_alloc | refine keep_far ?_ GW299.out _) | exact HK.out)⟩, ⟨by repeat (first | (with_reducible first | exact HB.out | apply bwA | apply bwN | apply bwD | refine below_set ?_ (IsS89.ge HI0.out) | refine below_set ?_ GE299.out) | exact HB.out)⟩⟩
        case rest =>
         clear HC18
         try clear c1
         try clear c2
         try clear p2
         try clear p6
         try clear c7
         try clear c8
         try clear c8b0
         try clear c9
         try clear c15
         try clear c15b0
         try clear c17
         try clear c20
         try clear c22
         try clear c22b0
         try clear c22b1
         try clear c22b2
         try clear hcz21_0
         try clear hcz21_1
         try clear hcz21_2
         try clear hcz21_3
         try clear hfz21_0
         try clear hfz21_1
         try clear hfz21_2
         try clear hfz21_3
         try clear p2
         try clear p6
         obtain ⟨kq, x36_17, rfl, HA, HJ17, HO_7, BK299, HI0, HK, HB⟩ := hcut
         cases kq with
         | zero => exact absurd HA.out (by simp [spec_l20Draw.j3])
         | succ kj17 =>
          have H := HA.out
          clear HA
          simp only [spec_l20Draw.j3] at H
          by_cases c25 : x36_17 = true
          ·subst c25
           have H1 : ((spec_l40Rd_pick.f kj17 s0_0 t298 a1).bind fun bt300 => (if a1 = 0 then (spec_l20Draw.j4 kj17 a1 x2_1 x7_1 x8_1 true s0_0 bt300.2 1 bt300.1 0 0) else (if x9_15 = 0 then (spec_l20Draw.j4 kj17 a1 x2_1 x7_1 x8_1 (decide ((x7_1.length : Int) > 0)) s0_0 bt300.2 1 bt300.1 0 0) else (spec_l20Draw.j4 kj17 a1 x2_1 x7_1 x8_1 false s0_0 bt300.2 1 bt300.1 0 0)))) = some (r1, r2) := by rw [if_pos rfl] at H; exact H
           clear H
           have H := H1
           clear H1
           replace H := Option.bind_eq_some_iff.mp H
           obtain ⟨⟨t300, t301⟩, A260, H⟩ := H
           replace H : (if a1 = 0 then (spec_l20Draw.j4 kj17 a1 x2_1 x7_1 x8_1 true s0_0 t301 1 t300 0 0) else (if x9_15 = 0 then (spec_l20Draw.j4 kj17 a1 x2_1 x7_1 x8_1 (decide ((x7_1.length : Int) > 0)) s0_0 t301 1 t300 0 0) else (spec_l20Draw.j4 kj17 a1 x2_1 x7_1 x8_1 false s0_0 t301 1 t300 0 0))) = some (r1, r2) := H
           have A26 := Aside0.mk A260
           clear A260
           have HC27 := Aside0.mk H
           clear H
           go_upto_region 11 with (first | ((with_reducible refine gate_callee (f := 81) rfl ?_); refine goesL_ (some 39) rfl rfl Try.func81 (by kernel_rfl) rfl #[.pointer (some ⟨g, 0, none⟩), .int .i64 a1] rfl lmB ?_; (with_reducible refine (spec_l40Rd_pick.calls kj17 g s0_0 t298 a1 t300 t301 w0 _ ?side1 ?side2 A26.out).mono ?_); (case side1 => repeat (first | (with_reducible first | exact HI0.out | apply IsS89.alloc | apply IsS89.drewN | apply IsS89.drew | apply IsS89.set_1 | refine IsS89.far ?_ NB0_299.out _) | exact HI0.out)); (case side2 => repeat (first | (with_reducible first | exact HB.out | apply bwA | apply bwN | apply bwD | refine below_set ?_ (IsS89.ge HI0.out) | refine below_set ?_ GE299.out) | exact HB.out)); rintro e w28 ⟨rfl, hi, hb, hk⟩; refine ⟨_, rfl, ?_⟩; have n0_ := Aside0.mk (Kd.R_mono (Kd.R_keep (IsS89.apart (show IsS89 w0 _ g s0_0 t298 from by repeat (first | (with_reducible first | exact HI0.out | apply IsS89.alloc | apply IsS89.drewN | apply IsS89.drew | apply IsS89.set_1 | refine IsS89.far ?_ NB0_299.out _) | exact HI0.out)) (rvR HO_7.out) (by decide)) hk (fun _ h => h.2)) (fun _ h => h.1)); have n1_ := Aside0.mk (KeepBut.blk hk (g' := gb299) (o := .cells #[.int .i64 x9_15, .int .i64 0, .int .i64 0, .int .i64 0] 37 (0, 0)) (bvK BK299.out) NB299_0.out (by simp)); have n2_ := Aside0.mk (KeepBut.trans (by repeat (first | (with_reducible first | exact HK.out | apply KeepBut.set_ | apply keep_drewN | apply keep_drew | apply keep_alloc | refine keep_far ?_ GW299.out _) | exact HK.out)) hk (.inl rfl)); have n3_ := Aside0.mk (hb); have n4_ := Aside0.mk (hi); clear HO_7; clear BK299; clear HK; clear HB; clear HI0; have HO_7 := n0_; have BK299 := n1_; have HK := n2_; have HB := n3_; have HI0 := n4_; clear n0_ n1_ n2_ n3_ n4_; (try clear hb); (try clear hb2); (try clear hk); (try clear hi); have hnb29 := NB299_0.out; have hnc29 := NB0_299.out; have hcz30_0 : w28.cell? ⟨gb299, 0, none⟩ = some (.int .i64 x9_15) := (blk_cell BK299.out 0).trans rfl; have hcz30_1 : w28.cell? ⟨gb299, 1, none⟩ = some (.int .i64 0) := (blk_cell BK299.out 1).trans rfl; have hcz30_2 : w28.cell? ⟨gb299, 2, none⟩ = some (.int .i64 0) := (blk_cell BK299.out 2).trans rfl; have hcz30_3 : w28.cell? ⟨gb299, 3, none⟩ = some (.int .i64 0) := (blk_cell BK299.out 3).trans rfl; have hfz30_0 := blk_frozen BK299.out 0; have hfz30_1 := blk_frozen BK299.out 1; have hfz30_2 := blk_frozen BK299.out 2; have hfz30_3 := blk_frozen BK299.out 3))
           (try simp only [Act.put, List.setIfInBounds_toArray, List.set_cons_zero, List.set_cons_succ])
           go_cut [51] (fun v51 wc => ∃ (kq : Nat) (x51_26 : Bool), v51 = .bool x51_26 ∧ Aside0 (spec_l20Draw.j4 kq a1 x2_1 x7_1 x8_1 x51_26 s0_0 t301 1 t300 0 0 = some (r1, r2)) ∧ Aside0 (kq ≤ kj17) ∧ Aside0 (Kd.R k37 37 wc w.heap.size (fun k_ => k_ ≠ gb299) u7 x7_1) ∧ Aside0 (wc.heap[gb299]? = some (.cells #[.int .i64 1, .int .i64 t300, .int .i64 0, .int .i64 0] 37 (0, 0))) ∧ Aside0 (IsS89 w0 wc g s0_0 t301) ∧ Aside0 (KeepBut w wc g none) ∧ Aside0 (Below w0.heap.size w0 wc))
           case first =>
            have H := HC27.out
            clear HC27
            by_cases c31 : a1 = 0
            ·rw [if_pos c31] at H
             have c31b0 : (a1 == 0) = true := beq_iff_eq.mpr c31
             have c31b1 : (a1 != 0) = false := bne_eq_false_iff_eq.mpr c31
             clear c31
             (first | rw [c31b0] | (simp only [i64_w, i32_w]; rw [c31b0]) | skip)
             have H' := Aside0.mk H
             clear H
             go_wp2
             go_meet
             case rel => exact ⟨_, (true), rsd, H', ⟨by have := HK1.out; have := HJ9.out; have := HJ15.out; have := HJ17.out; first | omega | exact Nat.le_refl _⟩, ⟨by (with_reducible repeat (first | apply Kd.R_alloc | apply Kd.R_drewN | apply Kd.R_drew)); exact Kd.R_mono (Kd.R_far (p := ⟨gb299, 3, none⟩) (Kd.R_far (p := ⟨gb299, 2, none⟩) (Kd.R_far (p := ⟨gb299, 1, none⟩) (Kd.R_far (p := ⟨gb299, 0, none⟩) (Kd.R_mono HO_7.out (fun k_ hk => (⟨hk, hk⟩ : _ ∧ k_ ≠ gb299))) (fun _ hk => hk.2) (.int .i64 1)) (fun _ hk => hk.2) (.int .i64 t300)) (fun _ hk => hk.2) (.int .i64 0)) (fun _ hk => hk.2) (.int .i64 0)) (fun _ hk => hk.1)⟩, ⟨by (with_reducible repeat (first | refine blk_drewN ?_ _ | refine blk_drew ?_ | refine blk_alloc ?_ _)); refine blk_put (cs := #[.int .i64 1, .int .i64 t300, .int .i64 0, .int .i64 0]) ?_ 3 _ rfl; (with_reducible repeat (first | refine blk_drewN ?_ _ | refine blk_drew ?_ | refine blk_alloc ?_ _)); refine blk_put (cs := #[.int .i64 1, .int .i64 t300, .int .i64 0, .int .i64 0]) ?_ 2 _ rfl; (with_reducible repeat (first | refine blk_drewN ?_ _ | refine blk_drew ?_ | refine blk_alloc ?_ _)); refine blk_put (cs := #[.int .i64 1, .int .i64 0, .int .i64 0, .int .i64 0]) ?_ 1 _ rfl; (with_reducible repeat (first | refine blk_drewN ?_ _ | refine blk_drew ?_ | refine blk_alloc ?_ _)); refine blk_put (cs := #[.int .i64 x9_15, .int .i64 0, .int .i64 0, .int .i64 0]) ?_ 0 _ rfl; (with_reducible repeat (first | refine blk_drewN ?_ _ | refine blk_drew ?_ | refine blk_alloc ?_ _)); exact BK299.out⟩, ⟨by repeat (first | (with_reducible first | exact HI0.out | apply IsS89.alloc | apply IsS89.drewN | apply IsS89.drew | apply IsS89.set_1 | refine IsS89.far ?_ NB0_299.out _) | exact HI0.out)⟩, ⟨by repeat (first | (with_reducible first | exact HK.out | apply KeepBut.set_ | apply keep_drewN | apply keep_drew | apply keep_alloc | refine keep_far ?_ GW299.out _) | exact HK.out)⟩, ⟨by repeat (first | (with_reducible first | exact HB.out | apply bwA | apply bwN | apply bwD | refine below_set ?_ (IsS89.ge HI0.out) | refine below_set ?_ GE299.out) | exact HB.out)⟩⟩
            ·rw [if_neg c31] at H
             have c31b0 : (a1 == 0) = false := beq_eq_false_iff_ne.mpr c31
             have c31b1 : (a1 != 0) = true := bne_iff_ne.mpr c31
             (first | rw [c31b0] | (simp only [i64_w, i32_w]; rw [c31b0]) | skip)
             by_cases c32 : x9_15 = 0
             ·rw [if_pos c32] at H
              have c32b0 : (x9_15 == 0) = true := beq_iff_eq.mpr c32
              have c32b1 : (x9_15 != 0) = false := bne_eq_false_iff_eq.mpr c32
              clear c32
              have H' := Aside0.mk H
              clear H
              obtain ⟨Ao33, co33, eo33⟩ := Kd.R_slice HO_7.out
              subst eo33
              go_wp2
              go_meet
              case rel => exact ⟨_, (decide ((x7_1.length : Int) > 0)), rsd, H', ⟨by have := HK1.out; have := HJ9.out; have := HJ15.out; have := HJ17.out; first | omega | exact Nat.le_refl _⟩, ⟨by (with_reducible repeat (first | apply Kd.R_alloc | apply Kd.R_drewN | apply Kd.R_drew)); exact Kd.R_mono (Kd.R_far (p := ⟨gb299, 3, none⟩) (Kd.R_far (p := ⟨gb299, 2, none⟩) (Kd.R_far (p := ⟨gb299, 1, none⟩) (Kd.R_far (p := ⟨gb299, 0, none⟩) (Kd.R_mono HO_7.out (fun k_ hk => (⟨hk, hk⟩ : _ ∧ k_ ≠ gb299))) (fun _ hk => hk.2) (.int .i64 1)) (fun _ hk => hk.2) (.int .i64 t300)) (fun _ hk => hk.2) (.int .i64 0)) (fun _ hk => hk.2) (.int .i64 0)) (fun _ hk => hk.1)⟩, ⟨by (with_reducible repeat (first | refine blk_drewN ?_ _ | refine blk_drew ?_ | refine blk_alloc ?_ _)); refine blk_put (cs := #[.int .i64 1, .int .i64 t300, .int .i64 0, .int .i64 0]) ?_ 3 _ rfl; (with_reducible repeat (first | refine blk_drewN ?_ _ | refine blk_drew ?_ | refine blk_alloc ?_ _)); refine blk_put (cs := #[.int .i64 1, .int .i64 t300, .int .i64 0, .int .i64 0]) ?_ 2 _ rfl; (with_reducible repeat (first | refine blk_drewN ?_ _ | refine blk_drew ?_ | refine blk_alloc ?_ _)); refine blk_put (cs := #[.int .i64 1, .int .i64 0, .int .i64 0, .int .i64 0]) ?_ 1 _ rfl; (with_reducible repeat (first | refine blk_drewN ?_ _ | refine blk_drew ?_ | refine blk_alloc ?_ _)); refine blk_put (cs := #[.int .i64 x9_15, .int .i64 0, .int .i64 0, .int .i64 0]) ?_ 0 _ rfl; (with_reducible repeat (first | refine blk_drewN ?_ _ | refine blk_drew ?_ | refine blk_alloc ?_ _)); exact BK299.out⟩, ⟨by repeat (first | (with_reducible first | exact HI0.out | apply IsS89.alloc | apply IsS89.drewN | apply IsS89.drew | apply IsS89.set_1 | refine IsS89.far ?_ NB0_299.out _) | exact HI0.out)⟩, ⟨by repeat (first | (with_reducible first | exact HK.out | apply KeepBut.set_ | apply keep_drewN | apply keep_drew | apply keep_alloc | refine keep_far ?_ GW299.out _) | exact HK.out)⟩, ⟨by repeat (first | (with_reducible first | exact HB.out | apply bwA | apply bwN | apply bwD | refine below_set ?_ (IsS89.ge HI0.out) | refine below_set ?_ GE299.out) | exact HB.out)⟩⟩
             ·rw [if_neg c32] at H
              have c32b0 : (x9_15 == 0) = false := beq_eq_false_iff_ne.mpr c32
              have c32b1 : (x9_15 != 0) = true := bne_iff_ne.mpr c32
              have H' := Aside0.mk H
              clear H
              go_wp2
              go_meet
              case rel => exact ⟨_, (false), rsd, H', ⟨by have := HK1.out; have := HJ9.out; have := HJ15.out; have := HJ17.out; first | omega | exact Nat.le_refl _⟩, ⟨by (with_reducible repeat (first | apply Kd.R_alloc | apply Kd.R_drewN | apply Kd.R_drew)); exact Kd.R_mono (Kd.R_far (p := ⟨gb299, 3, none⟩) (Kd.R_far (p := ⟨gb299, 2, none⟩) (Kd.R_far (p := ⟨gb299, 1, none⟩) (Kd.R_far (p := ⟨gb299, 0, none⟩) (Kd.R_mono HO_7.out (fun k_ hk => (⟨hk, hk⟩ : _ ∧ k_ ≠ gb299))) (fun _ hk => hk.2) (.int .i64 1)) (fun _ hk => hk.2) (.int .i64 t300)) (fun _ hk => hk.2) (.int .i64 0)) (fun _ hk => hk.2) (.int .i64 0)) (fun _ hk => hk.1)⟩, ⟨by (with_reducible repeat (first | refine blk_drewN ?_ _ | refine blk_drew ?_ | refine blk_alloc ?_ _)); refine blk_put (cs := #[.int .i64 1, .int .i64 t300, .int .i64 0, .int .i64 0]) ?_ 3 _ rfl; (with_reducible repeat (first | refine blk_drewN ?_ _ | refine blk_drew ?_ | refine blk_alloc ?_ _)); refine blk_put (cs := #[.int .i64 1, .int .i64 t300, .int .i64 0, .int .i64 0]) ?_ 2 _ rfl; (with_reducible repeat (first | refine blk_drewN ?_ _ | refine blk_drew ?_ | refine blk_alloc ?_ _)); refine blk_put (cs := #[.int .i64 1, .int .i64 0, .int .i64 0, .int .i64 0]) ?_ 1 _ rfl; (with_reducible repeat (first | refine blk_drewN ?_ _ | refine blk_drew ?_ | refine blk_alloc ?_ _)); refine blk_put (cs := #[.int .i64 x9_15, .int .i64 0, .int .i64 0, .int .i64 0]) ?_ 0 _ rfl; (with_reducible repeat (first | refine blk_drewN ?_ _ | refine blk_drew ?_ | refine blk_alloc ?_ _)); exact BK299.out⟩, ⟨by repeat (first | (with_reducible first | exact HI0.out | apply IsS89.alloc | apply IsS89.drewN | apply IsS89.drew | apply IsS89.set_1 | refine IsS89.far ?_ NB0_299.out _) | exact HI0.out)⟩, ⟨by repeat (first | (with_reducible first | exact HK.out | apply KeepBut.set_ | apply keep_drewN | apply keep_drew | apply keep_alloc | refine keep_far ?_ GW299.out _) | exact HK.out)⟩, ⟨by repeat (first | (with_reducible first | exact HB.out | apply bwA | apply bwN | apply bwD | refine below_set ?_ (IsS89.ge HI0.out) | refine below_set ?_ GE299.out) | exact HB.out)⟩⟩
           case rest =>
            clear HC27
            try clear c1
            try clear c2
            try clear p2
            try clear c3
            try clear p6
            try clear c7
            try clear c8
            try clear c8b0
            try clear c9
            try clear c15
            try clear c15b0
            try clear c17
            try clear c20
            try clear c22
            try clear c22b0
            try clear c22b1
            try clear c22b2
            try clear c25
            try clear c29
            try clear c31
            try clear c31b0
            try clear c31b1
            try clear c32
            try clear c32b0
            try clear c32b1
            try clear hcz21_0
            try clear hcz21_1
            try clear hcz21_2
            try clear hcz21_3
            try clear hcz30_0
            try clear hcz30_1
            try clear hcz30_2
            try clear hcz30_3
            try clear hfz21_0
            try clear hfz21_1
            try clear hfz21_2
            try clear hfz21_3
            try clear hfz30_0
            try clear hfz30_1
            try clear hfz30_2
            try clear hfz30_3
            try clear p2
            try clear p6
            obtain ⟨kq, x51_26, rfl, HA, HJ26, HO_7, BK299, HI0, HK, HB⟩ := hcut
            cases kq with
            | zero => exact absurd HA.out (by simp [spec_l20Draw.j4])
            | succ kj26 =>
             have H := HA.out
             clear HA
             simp only [spec_l20Draw.j4] at H
             by_cases c34 : x51_26 = true
             ·subst c34
              have H1 : (if x7_1.length < 4398046511104 then (spec_l20Draw.l0 kj26 a1 x2_1 (x7_1 ++ [(⟨0, 0, 0, 0⟩ : S37)]) (wrap64 (x8_1 - 1)) s0_0 t301) else (none)) = some (r1, r2) := by rw [if_pos rfl] at H; exact H
              clear H
              have H := H1
              clear H1
              by_cases c35 : x7_1.length < 4398046511104
              ·rw [if_pos c35] at H
               have LMc35 := Aside0.mk c35
               clear c35
               obtain ⟨y302, hy302⟩ : ∃ y_ : List (S37), y_ = (x7_1 ++ [(⟨0, 0, 0, 0⟩ : S37)]) := ⟨_, rfl⟩
               replace H : (spec_l20Draw.l0 kj26 a1 x2_1 y302 (wrap64 (x8_1 - 1)) s0_0 t301) = some (r1, r2) := by first | (rw [hy302]; with_reducible exact H) | (have H2_ := (Option.bind_some _ _).symm.trans H; rw [hy302]; with_reducible exact H2_) | (have H2_ := (Option.bind_some _ _).symm.trans H; with_reducible exact H2_) | with_reducible exact H | (rw [hy302]; exact H) | exact H
               have Ny302 := Aside0.mk hy302
               clear hy302
               have H' := Aside0.mk H
               clear H
               have hnb36 := NB299_0.out
               have hnc36 := NB0_299.out
               have hcz37_0 : wc.cell? ⟨gb299, 0, none⟩ = some (.int .i64 1) := (blk_cell BK299.out 0).trans rfl
               have hcz37_1 : wc.cell? ⟨gb299, 1, none⟩ = some (.int .i64 t300) := (blk_cell BK299.out 1).trans rfl
               have hcz37_2 : wc.cell? ⟨gb299, 2, none⟩ = some (.int .i64 0) := (blk_cell BK299.out 2).trans rfl
               have hcz37_3 : wc.cell? ⟨gb299, 3, none⟩ = some (.int .i64 0) := (blk_cell BK299.out 3).trans rfl
               have hfz37_0 := blk_frozen BK299.out 0
               have hfz37_1 := blk_frozen BK299.out 1
               have hfz37_2 := blk_frozen BK299.out 2
               have hfz37_3 := blk_frozen BK299.out 3
               go_wp2_with (first | ((with_reducible refine gate_builtin (b := .append) (xs := #[.tmp 79, .tmp 81]) rfl ?_); (try (refine gate_guard (by rfl) ?_; dsimp only)); at_builtin; refine Kd.R_append k37 w.heap.size rfl (.tmp 79) (.tmp 81) 25 37 (.agg #[(.int .i64 0), (.int .i64 0), (.int .i64 0), (.int .i64 0)]) 32 rfl Try.underlying25 info37 rfl (by decide) (by omega) u7 x7_1 (⟨0, 0, 0, 0⟩ : S37) [.int .i64 0, .int .i64 0, .int .i64 0, .int .i64 0] (fun k_ => k_ ≠ gb299) (fun _ => False) rfl (by first | (go_simp; done) | (go_simp; rfl)) ?aP (fun _ hk => hk.elim) ?aF ?aO (Below.refl _ _) ?aS ?aL ?_; (case aP => exact k37_mkM _ _ _ (⟨0, 0, 0, 0⟩ : S37)); (case aF => exact (fun k_ hk => Kd.freshB (g := gb299) (o := .cells #[.int .i64 0, .int .i64 0, .int .i64 0, .int .i64 0] 37 (0, 0)) (by (with_reducible repeat (first | refine blk_drewN ?_ _ | refine blk_drew ?_ | refine blk_alloc ?_ _)); refine blk_put (cs := #[.int .i64 0, .int .i64 0, .int .i64 0, .int .i64 0]) ?_ 3 _ rfl; (with_reducible repeat (first | refine blk_drewN ?_ _ | refine blk_drew ?_ | refine blk_alloc ?_ _)); refine blk_put (cs := #[.int .i64 0, .int .i64 0, .int .i64 0, .int .i64 0]) ?_ 2 _ rfl; (with_reducible repeat (first | refine blk_drewN ?_ _ | refine blk_drew ?_ | refine blk_alloc ?_ _)); refine blk_put (cs := #[.int .i64 0, .int .i64 t300, .int .i64 0, .int .i64 0]) ?_ 1 _ rfl; (with_reducible repeat (first | refine blk_drewN ?_ _ | refine blk_drew ?_ | refine blk_alloc ?_ _)); refine blk_put (cs := #[.int .i64 1, .int .i64 t300, .int .i64 0, .int .i64 0]) ?_ 0 _ rfl; (with_reducible repeat (first | refine blk_drewN ?_ _ | refine blk_drew ?_ | refine blk_alloc ?_ _)); exact BK299.out) k_ hk)); (case aO => exact (by (with_reducible repeat (first | apply Kd.R_alloc | apply Kd.R_drewN | apply Kd.R_drew)); exact Kd.R_mono (Kd.R_far (p := ⟨gb299, 3, none⟩) (Kd.R_far (p := ⟨gb299, 2, none⟩) (Kd.R_far (p := ⟨gb299, 1, none⟩) (Kd.R_far (p := ⟨gb299, 0, none⟩) (Kd.R_mono HO_7.out (fun k_ hk => (⟨hk, hk⟩ : _ ∧ k_ ≠ gb299))) (fun _ hk => hk.2) (.int .i64 0)) (fun _ hk => hk.2) (.int .i64 0)) (fun _ hk => hk.2) (.int .i64 0)) (fun _ hk => hk.2) (.int .i64 0)) (fun _ hk => hk.1))); (case aS => exact (keep_size (w := w) (g := g) (row := none) (by repeat (first | (with_reducible first | exact HK.out | apply KeepBut.set_ | apply keep_drewN | apply keep_drew | apply keep_alloc | refine keep_far ?_ GW299.out _) | exact HK.out)))); (case aL => have := LMc35.out; omega); intro v303 w38 ho hb hg hat; rw [← Ny302.out] at ho; have n0_ := Aside0.mk (blk_grown (g := gb299) (o := .cells #[.int .i64 0, .int .i64 0, .int .i64 0, .int .i64 0] 37 (0, 0)) (by (with_reducible repeat (first | refine blk_drewN ?_ _ | refine blk_drew ?_ | refine blk_alloc ?_ _)); refine blk_put (cs := #[.int .i64 0, .int .i64 0, .int .i64 0, .int .i64 0]) ?_ 3 _ rfl; (with_reducible repeat (first | refine blk_drewN ?_ _ | refine blk_drew ?_ | refine blk_alloc ?_ _)); refine blk_put (cs := #[.int .i64 0, .int .i64 0, .int .i64 0, .int .i64 0]) ?_ 2 _ rfl; (with_reducible repeat (first | refine blk_drewN ?_ _ | refine blk_drew ?_ | refine blk_alloc ?_ _)); refine blk_put (cs := #[.int .i64 0, .int .i64 t300, .int .i64 0, .int .i64 0]) ?_ 1 _ rfl; (with_reducible repeat (first | refine blk_drewN ?_ _ | refine blk_drew ?_ | refine blk_alloc ?_ _)); refine blk_put (cs := #[.int .i64 1, .int .i64 t300, .int .i64 0, .int .i64 0]) ?_ 0 _ rfl; (with_reducible repeat (first | refine blk_drewN ?_ _ | refine blk_drew ?_ | refine blk_alloc ?_ _)); exact BK299.out) hg (Kd.R_away HO_7.out (fun _ hk => hk))); have n1_ := Aside0.mk (IsS89.grown (by first | (with_reducible exact IsS89.far (IsS89.far (IsS89.far (IsS89.far (HI0.out) NB0_299.out _) NB0_299.out _) NB0_299.out _) NB0_299.out _) | repeat (first | (with_reducible first | exact HI0.out | apply IsS89.alloc | apply IsS89.drewN | apply IsS89.drew | apply IsS89.set_1 | refine IsS89.far ?_ NB0_299.out _) | exact HI0.out)) hg (IsS89.own_ne HI0.out HO_7.out (by decide))); have n2_ := Aside0.mk (below_weaken (by repeat (first | (with_reducible first | exact HB.out | apply bwA | apply bwN | apply bwD | refine below_set ?_ (IsS89.ge HI0.out) | refine below_set ?_ GE299.out) | exact HB.out)) HL.out hb); have n3_ := Aside0.mk (KeepBut.trans (by repeat (first | (with_reducible first | exact HK.out | apply KeepBut.set_ | apply keep_drewN | apply keep_drew | apply keep_alloc | refine keep_far ?_ GW299.out _) | exact HK.out)) (KeepBut.of_grown hg g) (Kd.R_base2 HO_7.out)); have n4_ := Aside0.mk (ho); clear BK299; clear HI0; clear HB; clear HK; clear HO_7; have BK299 := n0_; have HI0 := n1_; have HB := n2_; have HK := n3_; have HO304 := n4_; clear n0_ n1_ n2_ n3_ n4_; clear ho hb hg hat))
               go_roundg kj26
               case measure => have := HK1.out; have := HJ9.out; have := HJ15.out; have := HJ17.out; have := HJ26.out; omega
               case rel => exact ⟨(x2_1), (y302), (wrap64 (x8_1 - 1)), (t301), rsd, rsd, H', ⟨by have := HK1.out; have := HJ9.out; have := HJ15.out; have := HJ17.out; have := HJ26.out; omega⟩, ⟨by (with_reducible repeat (first | apply Kd.R_alloc | apply Kd.R_drewN | apply Kd.R_drew)); exact Kd.R_mono HO304.out (fun _ hk => trivial)⟩, ⟨by repeat (first | (with_reducible first | exact HI0.out | apply IsS89.alloc | apply IsS89.drewN | apply IsS89.drew | apply IsS89.set_1 | refine IsS89.far ?_ NB0_299.out _) | exact HI0.out)⟩, ⟨by repeat (first | (with_reducible first | exact HK.out | apply KeepBut.set_ | apply keep_drewN | apply keep_drew | apply keep_alloc | refine keep_far ?_ GW299.out _) | exact HK.out)⟩, ⟨by repeat (first | (with_reducible first | exact HB.out | apply bwA | apply bwN | apply bwD | refine below_set ?_ (IsS89.ge HI0.out) | refine below_set ?_ GE299.out) | exact HB.out)⟩⟩
              ·rw [if_neg c35] at H
               exact absurd H (by simp)
             ·replace c34 := Bool.eq_false_iff.mpr c34
              subst c34
              have H1 : (if x7_1.length < 4398046511104 then (spec_l20Draw.l0 kj26 a1 x2_1 (x7_1 ++ [(⟨1, t300, 0, 0⟩ : S37)]) (wrap64 (x8_1 - 1)) s0_0 t301) else (none)) = some (r1, r2) := by rw [if_neg (show ¬ (false = true) by decide)] at H; exact H
              clear H
              have H := H1
              clear H1
              by_cases c39 : x7_1.length < 4398046511104
              ·rw [if_pos c39] at H
               have LMc39 := Aside0.mk c39
               clear c39
               obtain ⟨y305, hy305⟩ : ∃ y_ : List (S37), y_ = (x7_1 ++ [(⟨1, t300, 0, 0⟩ : S37)]) := ⟨_, rfl⟩
               replace H : (spec_l20Draw.l0 kj26 a1 x2_1 y305 (wrap64 (x8_1 - 1)) s0_0 t301) = some (r1, r2) := by first | (rw [hy305]; with_reducible exact H) | (have H2_ := (Option.bind_some _ _).symm.trans H; rw [hy305]; with_reducible exact H2_) | (have H2_ := (Option.bind_some _ _).symm.trans H; with_reducible exact H2_) | with_reducible exact H | (rw [hy305]; exact H) | exact H
               have Ny305 := Aside0.mk hy305
               clear hy305
               have H' := Aside0.mk H
               clear H
               have hnb40 := NB299_0.out
               have hnc40 := NB0_299.out
               have hcz41_0 : wc.cell? ⟨gb299, 0, none⟩ = some (.int .i64 1) := (blk_cell BK299.out 0).trans rfl
               have hcz41_1 : wc.cell? ⟨gb299, 1, none⟩ = some (.int .i64 t300) := (blk_cell BK299.out 1).trans rfl
               have hcz41_2 : wc.cell? ⟨gb299, 2, none⟩ = some (.int .i64 0) := (blk_cell BK299.out 2).trans rfl
               have hcz41_3 : wc.cell? ⟨gb299, 3, none⟩ = some (.int .i64 0) := (blk_cell BK299.out 3).trans rfl
               have hfz41_0 := blk_frozen BK299.out 0
               have hfz41_1 := blk_frozen BK299.out 1
               have hfz41_2 := blk_frozen BK299.out 2
               have hfz41_3 := blk_frozen BK299.out 3
               go_wp2_with (first | ((with_reducible refine gate_builtin (b := .append) (xs := #[.tmp 79, .tmp 81]) rfl ?_); (try (refine gate_guard (by rfl) ?_; dsimp only)); at_builtin; refine Kd.R_append k37 w.heap.size rfl (.tmp 79) (.tmp 81) 25 37 (.agg #[(.int .i64 0), (.int .i64 0), (.int .i64 0), (.int .i64 0)]) 32 rfl Try.underlying25 info37 rfl (by decide) (by omega) u7 x7_1 (⟨1, t300, 0, 0⟩ : S37) [.int .i64 1, .int .i64 t300, .int .i64 0, .int .i64 0] (fun k_ => k_ ≠ gb299) (fun _ => False) rfl rfl ?aP (fun _ hk => hk.elim) ?aF ?aO (Below.refl _ _) ?aS ?aL ?_; (case aP => exact k37_mkM _ _ _ (⟨1, t300, 0, 0⟩ : S37)); (case aF => exact (fun k_ hk => Kd.freshB (g := gb299) (o := .cells #[.int .i64 1, .int .i64 t300, .int .i64 0, .int .i64 0] 37 (0, 0)) (bvK BK299.out) k_ hk)); (case aO => exact (rvR HO_7.out)); (case aS => exact (keep_size (w := w) (g := g) (row := none) (by repeat (first | (with_reducible first | exact HK.out | apply KeepBut.set_ | apply keep_drewN | apply keep_drew | apply keep_alloc | refine keep_far ?_ GW299.out _) | exact HK.out)))); (case aL => have := LMc39.out; omega); intro v306 w42 ho hb hg hat; rw [← Ny305.out] at ho; have n0_ := Aside0.mk (blk_grown (g := gb299) (o := .cells #[.int .i64 1, .int .i64 t300, .int .i64 0, .int .i64 0] 37 (0, 0)) (bvK BK299.out) hg (Kd.R_away HO_7.out (fun _ hk => hk))); have n1_ := Aside0.mk (IsS89.grown (by first | (with_reducible exact IsS89.far (IsS89.far (IsS89.far (IsS89.far (HI0.out) NB0_299.out _) NB0_299.out _) NB0_299.out _) NB0_299.out _) | repeat (first | (with_reducible first | exact HI0.out | apply IsS89.alloc | apply IsS89.drewN | apply IsS89.drew | apply IsS89.set_1 | refine IsS89.far ?_ NB0_299.out _) | exact HI0.out)) hg (IsS89.own_ne HI0.out HO_7.out (by decide))); have n2_ := Aside0.mk (below_weaken (by repeat (first | (with_reducible first | exact HB.out | apply bwA | apply bwN | apply bwD | refine below_set ?_ (IsS89.ge HI0.out) | refine below_set ?_ GE299.out) | exact HB.out)) HL.out hb); have n3_ := Aside0.mk (KeepBut.trans (by repeat (first | (with_reducible first | exact HK.out | apply KeepBut.set_ | apply keep_drewN | apply keep_drew | apply keep_alloc | refine keep_far ?_ GW299.out _) | exact HK.out)) (KeepBut.of_grown hg g) (Kd.R_base2 HO_7.out)); have n4_ := Aside0.mk (ho); clear BK299; clear HI0; clear HB; clear HK; clear HO_7; have BK299 := n0_; have HI0 := n1_; have HB := n2_; have HK := n3_; have HO307 := n4_; clear n0_ n1_ n2_ n3_ n4_; clear ho hb hg hat))
               go_roundg kj26
               case measure => have := HK1.out; have := HJ9.out; have := HJ15.out; have := HJ17.out; have := HJ26.out; omega
               case rel => exact ⟨(x2_1), (y305), (wrap64 (x8_1 - 1)), (t301), rsd, rsd, H', ⟨by have := HK1.out; have := HJ9.out; have := HJ15.out; have := HJ17.out; have := HJ26.out; omega⟩, ⟨by (with_reducible repeat (first | apply Kd.R_alloc | apply Kd.R_drewN | apply Kd.R_drew)); exact Kd.R_mono HO307.out (fun _ hk => trivial)⟩, ⟨by repeat (first | (with_reducible first | exact HI0.out | apply IsS89.alloc | apply IsS89.drewN | apply IsS89.drew | apply IsS89.set_1 | refine IsS89.far ?_ NB0_299.out _) | exact HI0.out)⟩, ⟨by repeat (first | (with_reducible first | exact HK.out | apply KeepBut.set_ | apply keep_drewN | apply keep_drew | apply keep_alloc | refine keep_far ?_ GW299.out _) | exact HK.out)⟩, ⟨by repeat (first | (with_reducible first | exact HB.out | apply bwA | apply bwN | apply bwD | refine below_set ?_ (IsS89.ge HI0.out) | refine below_set ?_ GE299.out) | exact HB.out)⟩⟩
              ·rw [if_neg c39] at H
               exact absurd H (by simp)
          ·replace c25 := Bool.eq_false_iff.mpr c25
           subst c25
           have H1 : ((spec_l40Rd_pick.f kj17 s0_0 t298 2).bind fun bt308 => ((spec_l40Rd_pick.f kj17 s0_0 bt308.2 (x7_1.length : Int)).bind fun bt310 => ((spec_l40Rd_pick.f kj17 s0_0 bt310.2 (x7_1.length : Int)).bind fun bt312 => ((spec_l20One.f x9_15).bind fun t314 => (if t314 = true then (spec_l20Draw.j5 kj17 a1 x2_1 x7_1 x8_1 x9_15 s0_0 bt312.2 x9_15 0 (wrap64 ((wrap64 ((x7_1.length : Int) - 1)) - (wrap64 (bt308.1 * bt310.1)))) (wrap64 ((wrap64 ((x7_1.length : Int) - 1)) - (wrap64 (bt308.1 * bt310.1))))) else (spec_l20Draw.j5 kj17 a1 x2_1 x7_1 x8_1 x9_15 s0_0 bt312.2 x9_15 0 (wrap64 ((wrap64 ((x7_1.length : Int) - 1)) - (wrap64 (bt308.1 * bt310.1)))) bt312.1)))))) = some (r1, r2) := by rw [if_neg (show ¬ (false = true) by decide)] at H; exact H
           clear H
           have H := H1
           clear H1
           replace H := Option.bind_eq_some_iff.mp H
           obtain ⟨⟨t308, t309⟩, A430, H⟩ := H
           replace H : ((spec_l40Rd_pick.f kj17 s0_0 t309 (x7_1.length : Int)).bind fun bt310 => ((spec_l40Rd_pick.f kj17 s0_0 bt310.2 (x7_1.length : Int)).bind fun bt312 => ((spec_l20One.f x9_15).bind fun t314 => (if t314 = true then (spec_l20Draw.j5 kj17 a1 x2_1 x7_1 x8_1 x9_15 s0_0 bt312.2 x9_15 0 (wrap64 ((wrap64 ((x7_1.length : Int) - 1)) - (wrap64 (t308 * bt310.1)))) (wrap64 ((wrap64 ((x7_1.length : Int) - 1)) - (wrap64 (t308 * bt310.1))))) else (spec_l20Draw.j5 kj17 a1 x2_1 x7_1 x8_1 x9_15 s0_0 bt312.2 x9_15 0 (wrap64 ((wrap64 ((x7_1.length : Int) - 1)) - (wrap64 (t308 * bt310.1)))) bt312.1))))) = some (r1, r2) := H
           have A43 := Aside0.mk A430
           clear A430
           replace H := Option.bind_eq_some_iff.mp H
           obtain ⟨⟨t310, t311⟩, A440, H⟩ := H
           replace H : ((spec_l40Rd_pick.f kj17 s0_0 t311 (x7_1.length : Int)).bind fun bt312 => ((spec_l20One.f x9_15).bind fun t314 => (if t314 = true then (spec_l20Draw.j5 kj17 a1 x2_1 x7_1 x8_1 x9_15 s0_0 bt312.2 x9_15 0 (wrap64 ((wrap64 ((x7_1.length : Int) - 1)) - (wrap64 (t308 * t310)))) (wrap64 ((wrap64 ((x7_1.length : Int) - 1)) - (wrap64 (t308 * t310))))) else (spec_l20Draw.j5 kj17 a1 x2_1 x7_1 x8_1 x9_15 s0_0 bt312.2 x9_15 0 (wrap64 ((wrap64 ((x7_1.length : Int) - 1)) - (wrap64 (t308 * t310)))) bt312.1)))) = some (r1, r2) := H
           have A44 := Aside0.mk A440
           clear A440
           replace H := Option.bind_eq_some_iff.mp H
           obtain ⟨⟨t312, t313⟩, A450, H⟩ := H
           replace H : ((spec_l20One.f x9_15).bind fun t314 => (if t314 = true then (spec_l20Draw.j5 kj17 a1 x2_1 x7_1 x8_1 x9_15 s0_0 t313 x9_15 0 (wrap64 ((wrap64 ((x7_1.length : Int) - 1)) - (wrap64 (t308 * t310)))) (wrap64 ((wrap64 ((x7_1.length : Int) - 1)) - (wrap64 (t308 * t310))))) else (spec_l20Draw.j5 kj17 a1 x2_1 x7_1 x8_1 x9_15 s0_0 t313 x9_15 0 (wrap64 ((wrap64 ((x7_1.length : Int) - 1)) - (wrap64 (t308 * t310)))) t312))) = some (r1, r2) := H
           have A45 := Aside0.mk A450
           clear A450
           replace H := Option.bind_eq_some_iff.mp H
           obtain ⟨t314, A460, H⟩ := H
           replace H : (if t314 = true then (spec_l20Draw.j5 kj17 a1 x2_1 x7_1 x8_1 x9_15 s0_0 t313 x9_15 0 (wrap64 ((wrap64 ((x7_1.length : Int) - 1)) - (wrap64 (t308 * t310)))) (wrap64 ((wrap64 ((x7_1.length : Int) - 1)) - (wrap64 (t308 * t310))))) else (spec_l20Draw.j5 kj17 a1 x2_1 x7_1 x8_1 x9_15 s0_0 t313 x9_15 0 (wrap64 ((wrap64 ((x7_1.length : Int) - 1)) - (wrap64 (t308 * t310)))) t312)) = some (r1, r2) := H
           have A46 := Aside0.mk A460
           clear A460
           have HC47 := Aside0.mk H
           clear H
           obtain ⟨Ao48, co48, eo48⟩ := Kd.R_slice HO_7.out
           subst eo48
           go_upto_if 71 with (first | ((with_reducible refine gate_callee (f := 81) rfl ?_); refine goesL_ (some 57) rfl rfl Try.func81 (by kernel_rfl) rfl #[.pointer (some ⟨g, 0, none⟩), .int .i64 2] rfl lmB ?_; (with_reducible refine (spec_l40Rd_pick.calls kj17 g s0_0 t298 2 t308 t309 w0 _ ?side1 ?side2 A43.out).mono ?_); (case side1 => repeat (first | (with_reducible first | exact HI0.out | apply IsS89.alloc | apply IsS89.drewN | apply IsS89.drew | apply IsS89.set_1 | refine IsS89.far ?_ NB0_299.out _) | exact HI0.out)); (case side2 => repeat (first | (with_reducible first | exact HB.out | apply bwA | apply bwN | apply bwD | refine below_set ?_ (IsS89.ge HI0.out) | refine below_set ?_ GE299.out) | exact HB.out)); rintro e w49 ⟨rfl, hi, hb, hk⟩; refine ⟨_, rfl, ?_⟩; have n0_ := Aside0.mk (Kd.R_mono (Kd.R_keep (IsS89.apart (show IsS89 w0 _ g s0_0 t298 from by repeat (first | (with_reducible first | exact HI0.out | apply IsS89.alloc | apply IsS89.drewN | apply IsS89.drew | apply IsS89.set_1 | refine IsS89.far ?_ NB0_299.out _) | exact HI0.out)) (rvR HO_7.out) (by decide)) hk (fun _ h => h.2)) (fun _ h => h.1)); have n1_ := Aside0.mk (KeepBut.blk hk (g' := gb299) (o := .cells #[.int .i64 x9_15, .int .i64 0, .int .i64 0, .int .i64 0] 37 (0, 0)) (bvK BK299.out) NB299_0.out (by simp)); have n2_ := Aside0.mk (KeepBut.trans (by repeat (first | (with_reducible first | exact HK.out | apply KeepBut.set_ | apply keep_drewN | apply keep_drew | apply keep_alloc | refine keep_far ?_ GW299.out _) | exact HK.out)) hk (.inl rfl)); have n3_ := Aside0.mk (hb); have n4_ := Aside0.mk (hi); clear HO_7; clear BK299; clear HK; clear HB; clear HI0; have HO_7 := n0_; have BK299 := n1_; have HK := n2_; have HB := n3_; have HI0 := n4_; clear n0_ n1_ n2_ n3_ n4_; (try clear hb); (try clear hb2); (try clear hk); (try clear hi)) | ((with_reducible refine gate_callee (f := 81) rfl ?_); refine goesL_ (some 61) rfl rfl Try.func81 (by kernel_rfl) rfl #[.pointer (some ⟨g, 0, none⟩), .int .i64 (x7_1.length : Int)] rfl lmB ?_; (with_reducible refine (spec_l40Rd_pick.calls kj17 g s0_0 t309 (x7_1.length : Int) t310 t311 w0 _ ?side1 ?side2 A44.out).mono ?_); (case side1 => repeat (first | (with_reducible first | exact HI0.out | apply IsS89.alloc | apply IsS89.drewN | apply IsS89.drew | apply IsS89.set_1 | refine IsS89.far ?_ NB0_299.out _) | exact HI0.out)); (case side2 => repeat (first | (with_reducible first | exact HB.out | apply bwA | apply bwN | apply bwD | refine below_set ?_ (IsS89.ge HI0.out) | refine below_set ?_ GE299.out) | exact HB.out)); rintro e w50 ⟨rfl, hi, hb, hk⟩; refine ⟨_, rfl, ?_⟩; have n0_ := Aside0.mk (Kd.R_mono (Kd.R_keep (IsS89.apart (show IsS89 w0 _ g s0_0 t309 from by repeat (first | (with_reducible first | exact HI0.out | apply IsS89.alloc | apply IsS89.drewN | apply IsS89.drew | apply IsS89.set_1 | refine IsS89.far ?_ NB0_299.out _) | exact HI0.out)) (rvR HO_7.out) (by decide)) hk (fun _ h => h.2)) (fun _ h => h.1)); have n1_ := Aside0.mk (KeepBut.blk hk (g' := gb299) (o := .cells #[.int .i64 x9_15, .int .i64 0, .int .i64 0, .int .i64 0] 37 (0, 0)) (bvK BK299.out) NB299_0.out (by simp)); have n2_ := Aside0.mk (KeepBut.trans (by repeat (first | (with_reducible first | exact HK.out | apply KeepBut.set_ | apply keep_drewN | apply keep_drew | apply keep_alloc | refine keep_far ?_ GW299.out _) | exact HK.out)) hk (.inl rfl)); have n3_ := Aside0.mk (hb); have n4_ := Aside0.mk (hi); clear HO_7; clear BK299; clear HK; clear HB; clear HI0; have HO_7 := n0_; have BK299 := n1_; have HK := n2_; have HB := n3_; have HI0 := n4_; clear n0_ n1_ n2_ n3_ n4_; (try clear hb); (try clear hb2); (try clear hk); (try clear hi); have hnb51 := NB299_0.out; have hnc51 := NB0_299.out; have hcz52_0 : w50.cell? ⟨gb299, 0, none⟩ = some (.int .i64 x9_15) := (blk_cell BK299.out 0).trans rfl; have hcz52_1 : w50.cell? ⟨gb299, 1, none⟩ = some (.int .i64 0) := (blk_cell BK299.out 1).trans rfl; have hcz52_2 : w50.cell? ⟨gb299, 2, none⟩ = some (.int .i64 0) := (blk_cell BK299.out 2).trans rfl; have hcz52_3 : w50.cell? ⟨gb299, 3, none⟩ = some (.int .i64 0) := (blk_cell BK299.out 3).trans rfl; have hfz52_0 := blk_frozen BK299.out 0; have hfz52_1 := blk_frozen BK299.out 1; have hfz52_2 := blk_frozen BK299.out 2; have hfz52_3 := blk_frozen BK299.out 3) | ((with_reducible refine gate_callee (f := 81) rfl ?_); refine goesL_ (some 68) rfl rfl Try.func81 (by kernel_rfl) rfl #[.pointer (some ⟨g, 0, none⟩), .int .i64 (x7_1.length : Int)] rfl lmB ?_; (with_reducible refine (spec_l40Rd_pick.calls kj17 g s0_0 t311 (x7_1.length : Int) t312 t313 w0 _ ?side1 ?side2 A45.out).mono ?_); (case side1 => repeat (first | (with_reducible first | exact HI0.out | apply IsS89.alloc | apply IsS89.drewN | apply IsS89.drew | apply IsS89.set_1 | refine IsS89.far ?_ NB0_299.out _) | exact HI0.out)); (case side2 => repeat (first | (with_reducible first | exact HB.out | apply bwA | apply bwN | apply bwD | refine below_set ?_ (IsS89.ge HI0.out) | refine below_set ?_ GE299.out) | exact HB.out)); rintro e w53 ⟨rfl, hi, hb, hk⟩; refine ⟨_, rfl, ?_⟩; have n0_ := Aside0.mk (Kd.R_mono (Kd.R_keep (IsS89.apart (show IsS89 w0 _ g s0_0 t311 from by repeat (first | (with_reducible first | exact HI0.out | apply IsS89.alloc | apply IsS89.drewN | apply IsS89.drew | apply IsS89.set_1 | refine IsS89.far ?_ NB0_299.out _) | exact HI0.out)) (by (with_reducible repeat (first | apply Kd.R_alloc | apply Kd.R_drewN | apply Kd.R_drew)); exact (Kd.R_mono (Kd.R_far (p := ⟨gb299, 2, none⟩) (Kd.R_mono HO_7.out (fun k_ hk => (⟨hk, hk⟩ : _ ∧ k_ ≠ gb299))) (fun _ hk => hk.2) (.int .i64 (wrap64 ((wrap64 ((x7_1.length : Int) - 1)) - (wrap64 (t308 * t310)))))) (fun _ h_ => h_.1))) (by decide)) hk (fun _ h => h.2)) (fun _ h => h.1)); have n1_ := Aside0.mk (KeepBut.blk hk (g' := gb299) (o := .cells #[.int .i64 x9_15, .int .i64 0, .int .i64 (wrap64 ((wrap64 ((x7_1.length : Int) - 1)) - (wrap64 (t308 * t310)))), .int .i64 0] 37 (0, 0)) (by (with_reducible repeat (first | refine blk_drewN ?_ _ | refine blk_drew ?_ | refine blk_alloc ?_ _)); refine blk_put (cs := #[.int .i64 x9_15, .int .i64 0, .int .i64 0, .int .i64 0]) ?_ 2 _ rfl; (with_reducible repeat (first | refine blk_drewN ?_ _ | refine blk_drew ?_ | refine blk_alloc ?_ _)); exact BK299.out) NB299_0.out (by simp)); have n2_ := Aside0.mk (KeepBut.trans (by repeat (first | (with_reducible first | exact HK.out | apply KeepBut.set_ | apply keep_drewN | apply keep_drew | apply keep_alloc | refine keep_far ?_ GW299.out _) | exact HK.out)) hk (.inl rfl)); have n3_ := Aside0.mk (hb); have n4_ := Aside0.mk (hi); clear HO_7; clear BK299; clear HK; clear HB; clear HI0; have HO_7 := n0_; have BK299 := n1_; have HK := n2_; have HB := n3_; have HI0 := n4_; clear n0_ n1_ n2_ n3_ n4_; (try clear hb); (try clear hb2); (try clear hk); (try clear hi); have hcz54_0 : w53.cell? ⟨gb299, 0, none⟩ = some (.int .i64 x9_15) := (blk_cell BK299.out 0).trans rfl; have hcz54_1 : w53.cell? ⟨gb299, 1, none⟩ = some (.int .i64 0) := (blk_cell BK299.out 1).trans rfl; have hcz54_2 : w53.cell? ⟨gb299, 2, none⟩ = some (.int .i64 (wrap64 ((wrap64 ((x7_1.length : Int) - 1)) - (wrap64 (t308 * t310))))) := (blk_cell BK299.out 2).trans rfl; have hcz54_3 : w53.cell? ⟨gb299, 3, none⟩ = some (.int .i64 0) := (blk_cell BK299.out 3).trans rfl; have hfz54_0 := blk_frozen BK299.out 0; have hfz54_1 := blk_frozen BK299.out 1; have hfz54_2 := blk_frozen BK299.out 2; have hfz54_3 := blk_frozen BK299.out 3) | ((with_reducible refine gate_callee (f := 93) rfl ?_); refine goesL_ (some 71) rfl rfl Try.func93 (by kernel_rfl) rfl #[.int .i64 x9_15] rfl lmB ?_; (with_reducible refine (spec_l20One.calls x9_15 t314 _ A46.out).mono ?_); rintro e w' ⟨rfl, ⟨nd, rfl⟩⟩; refine ⟨_, rfl, ?_⟩))
           (try simp only [Act.put, List.setIfInBounds_toArray, List.set_cons_zero, List.set_cons_succ])
           go_cut [] (fun wc => ∃ (kq : Nat) (x300003_46 : Int), Aside0 (spec_l20Draw.j5 kq a1 x2_1 x7_1 x8_1 x9_15 s0_0 t313 x9_15 0 (wrap64 ((wrap64 ((x7_1.length : Int) - 1)) - (wrap64 (t308 * t310)))) x300003_46 = some (r1, r2)) ∧ Aside0 (kq ≤ kj17) ∧ Aside0 (Kd.R k37 37 wc w.heap.size (fun k_ => k_ ≠ gb299) (.slice Ao48 x7_1.length co48) x7_1) ∧ Aside0 (wc.heap[gb299]? = some (.cells #[.int .i64 x9_15, .int .i64 0, .int .i64 (wrap64 ((wrap64 ((x7_1.length : Int) - 1)) - (wrap64 (t308 * t310)))), .int .i64 x300003_46] 37 (0, 0))) ∧ Aside0 (IsS89 w0 wc g s0_0 t313) ∧ Aside0 (KeepBut w wc g none) ∧ Aside0 (Below w0.heap.size w0 wc))
           case first =>
            have H := HC47.out
            clear HC47
            by_cases c55 : t314 = true
            ·subst c55
             have H1 : (spec_l20Draw.j5 kj17 a1 x2_1 x7_1 x8_1 x9_15 s0_0 t313 x9_15 0 (wrap64 ((wrap64 ((x7_1.length : Int) - 1)) - (wrap64 (t308 * t310)))) (wrap64 ((wrap64 ((x7_1.length : Int) - 1)) - (wrap64 (t308 * t310))))) = some (r1, r2) := by rw [if_pos rfl] at H; exact H
             clear H
             have H := H1
             clear H1
             have H' := Aside0.mk H
             clear H
             have hnb56 := NB299_0.out
             have hnc56 := NB0_299.out
             have hcz57_0 : w53.cell? ⟨gb299, 0, none⟩ = some (.int .i64 x9_15) := (blk_cell BK299.out 0).trans rfl
             have hcz57_1 : w53.cell? ⟨gb299, 1, none⟩ = some (.int .i64 0) := (blk_cell BK299.out 1).trans rfl
             have hcz57_2 : w53.cell? ⟨gb299, 2, none⟩ = some (.int .i64 (wrap64 ((wrap64 ((x7_1.length : Int) - 1)) - (wrap64 (t308 * t310))))) := (blk_cell BK299.out 2).trans rfl
             have hcz57_3 : w53.cell? ⟨gb299, 3, none⟩ = some (.int .i64 0) := (blk_cell BK299.out 3).trans rfl
             have hfz57_0 := blk_frozen BK299.out 0
             have hfz57_1 := blk_frozen BK299.out 1
             have hfz57_2 := blk_frozen BK299.out 2
             have hfz57_3 := blk_frozen BK299.out 3
             go_wp2
             go_meet
             case rel => exact ⟨_, (wrap64 ((wrap64 ((x7_1.length : Int) - 1)) - (wrap64 (t308 * t310)))), H', ⟨by have := HK1.out; have := HJ9.out; have := HJ15.out; have := HJ17.out; first | omega | exact Nat.le_refl _⟩, ⟨by (with_reducible repeat (first | apply Kd.R_alloc | apply Kd.R_drewN | apply Kd.R_drew)); exact Kd.R_mono (Kd.R_far (p := ⟨gb299, 3, none⟩) (Kd.R_far (p := ⟨gb299, 3, none⟩) (Kd.R_mono HO_7.out (fun k_ hk => (⟨hk, hk⟩ : _ ∧ k_ ≠ gb299))) (fun _ hk => hk.2) (.int .i64 t312)) (fun _ hk => hk.2) (.int .i64 (wrap64 ((wrap64 ((x7_1.length : Int) - 1)) - (wrap64 (t308 * t310)))))) (fun _ hk => hk.1)⟩, ⟨by (with_reducible repeat (first | refine blk_drewN ?_ _ | refine blk_drew ?_ | refine blk_alloc ?_ _)); refine blk_put (cs := #[.int .i64 x9_15, .int .i64 0, .int .i64 (wrap64 ((wrap64 ((x7_1.length : Int) - 1)) - (wrap64 (t308 * t310)))), .int .i64 t312]) ?_ 3 _ rfl; (with_reducible repeat (first | refine blk_drewN ?_ _ | refine blk_drew ?_ | refine blk_alloc ?_ _)); refine blk_put (cs := #[.int .i64 x9_15, .int .i64 0, .int .i64 (wrap64 ((wrap64 ((x7_1.length : Int) - 1)) - (wrap64 (t308 * t310)))), .int .i64 0]) ?_ 3 _ rfl; (with_reducible repeat (first | refine blk_drewN ?_ _ | refine blk_drew ?_ | refine blk_alloc ?_ _)); exact BK299.out⟩, ⟨by repeat (first | (with_reducible first | exact HI0.out | apply IsS89.alloc | apply IsS89.drewN | apply IsS89.drew | apply IsS89.set_1 | refine IsS89.far ?_ NB0_299.out _) | exact HI0.out)⟩, ⟨by repeat (first | (with_reducible first | exact HK.out | apply KeepBut.set_ | apply keep_drewN | apply keep_drew | apply keep_alloc | refine keep_far ?_ GW299.out _) | exact HK.out)⟩, ⟨by repeat (first | (with_reducible first | exact HB.out | apply bwA | apply bwN | apply bwD | refine below_set ?_ (IsS89.ge HI0.out) | refine below_set ?_ GE299.out) | exact HB.out)⟩⟩
            ·replace c55 := Bool.eq_false_iff.mpr c55
             subst c55
             have H1 : (spec_l20Draw.j5 kj17 a1 x2_1 x7_1 x8_1 x9_15 s0_0 t313 x9_15 0 (wrap64 ((wrap64 ((x7_1.length : Int) - 1)) - (wrap64 (t308 * t310)))) t312) = some (r1, r2) := by rw [if_neg (show ¬ (false = true) by decide)] at H; exact H
             clear H
             have H := H1
             clear H1
             have H' := Aside0.mk H
             clear H
             go_wp2
             go_meet
             case rel => exact ⟨_, (t312), H', ⟨by have := HK1.out; have := HJ9.out; have := HJ15.out; have := HJ17.out; first | omega | exact Nat.le_refl _⟩, ⟨by (with_reducible repeat (first | apply Kd.R_alloc | apply Kd.R_drewN | apply Kd.R_drew)); exact Kd.R_mono (Kd.R_far (p := ⟨gb299, 3, none⟩) (Kd.R_mono HO_7.out (fun k_ hk => (⟨hk, hk⟩ : _ ∧ k_ ≠ gb299))) (fun _ hk => hk.2) (.int .i64 t312)) (fun _ hk => hk.1)⟩, ⟨by (with_reducible repeat (first | refine blk_drewN ?_ _ | refine blk_drew ?_ | refine blk_alloc ?_ _)); refine blk_put (cs := #[.int .i64 x9_15, .int .i64 0, .int .i64 (wrap64 ((wrap64 ((x7_1.length : Int) - 1)) - (wrap64 (t308 * t310)))), .int .i64 0]) ?_ 3 _ rfl; (with_reducible repeat (first | refine blk_drewN ?_ _ | refine blk_drew ?_ | refine blk_alloc ?_ _)); exact BK299.out⟩, ⟨by repeat (first | (with_reducible first | exact HI0.out | apply IsS89.alloc | apply IsS89.drewN | apply IsS89.drew | apply IsS89.set_1 | refine IsS89.far ?_ NB0_299.out _) | exact HI0.out)⟩, ⟨by repeat (first | (with_reducible first | exact HK.out | apply KeepBut.set_ | apply keep_drewN | apply keep_drew | apply keep_alloc | refine keep_far ?_ GW299.out _) | exact HK.out)⟩, ⟨by repeat (first | (with_reducible first | exact HB.out | apply bwA | apply bwN | apply bwD | refine below_set ?_ (IsS89.ge HI0.out) | refine below_set ?_ GE299.out) | exact HB.out)⟩⟩
           case rest =>
            clear HC47
            try clear c1
            try clear c2
            try clear p2
            try clear c3
            try clear c4
            try clear c5
            try clear p6
            try clear c7
            try clear c8
            try clear c8b0
            try clear c9
            try clear c15
            try clear c15b0
            try clear c17
            try clear c20
            try clear c22
            try clear c22b0
            try clear c22b1
            try clear c22b2
            try clear c25
            try clear c29
            try clear c31
            try clear c31b0
            try clear c31b1
            try clear c32
            try clear c32b0
            try clear c32b1
            try clear c34
            try clear c35
            try clear c36
            try clear c39
            try clear c40
            try clear c51
            try clear c55
            try clear c56
            try clear hcz21_0
            try clear hcz21_1
            try clear hcz21_2
            try clear hcz21_3
            try clear hcz30_0
            try clear hcz30_1
            try clear hcz30_2
            try clear hcz30_3
            try clear hcz37_0
            try clear hcz37_1
            try clear hcz37_2
            try clear hcz37_3
            try clear hcz41_0
            try clear hcz41_1
            try clear hcz41_2
            try clear hcz41_3
            try clear hcz52_0
            try clear hcz52_1
            try clear hcz52_2
            try clear hcz52_3
            try clear hcz54_0
            try clear hcz54_1
            try clear hcz54_2
            try clear hcz54_3
            try clear hcz57_0
            try clear hcz57_1
            try clear hcz57_2
            try clear hcz57_3
            try clear hfz21_0
            try clear hfz21_1
            try clear hfz21_2
            try clear hfz21_3
            try clear hfz30_0
            try clear hfz30_1
            try clear hfz30_2
            try clear hfz30_3
            try clear hfz37_0
            try clear hfz37_1
            try clear hfz37_2
            try clear hfz37_3
            try clear hfz41_0
            try clear hfz41_1
            try clear hfz41_2
            try clear hfz41_3
            try clear hfz52_0
            try clear hfz52_1
            try clear hfz52_2
            try clear hfz52_3
            try clear hfz54_0
            try clear hfz54_1
            try clear hfz54_2
            try clear hfz54_3
            try clear hfz57_0
            try clear hfz57_1
            try clear hfz57_2
            try clear hfz57_3
            try clear p2
            try clear p6
            obtain ⟨kq, x300003_46, HA, HJ46, HO_7, BK299, HI0, HK, HB⟩ := hcut
            cases kq with
            | zero => exact absurd HA.out (by simp [spec_l20Draw.j5])
            | succ kj46 =>
             have H := HA.out
             clear HA
             simp only [spec_l20Draw.j5] at H
             by_cases c58 : x9_15 ≥ 5
             ·rw [if_pos c58] at H
              have c58b0 : decide (5 ≤ x9_15) = true := decide_eq_true c58
              clear c58
              by_cases c59 : x7_1.length < 4398046511104
              ·rw [if_pos c59] at H
               have LMc59 := Aside0.mk c59
               clear c59
               obtain ⟨y315, hy315⟩ : ∃ y_ : List (S37), y_ = (x7_1 ++ [(⟨x9_15, 0, (wrap64 ((wrap64 ((x7_1.length : Int) - 1)) - (wrap64 (t308 * t310)))), x300003_46⟩ : S37)]) := ⟨_, rfl⟩
               replace H : (spec_l20Draw.l0 kj46 a1 (wrap64 (x2_1 - 1)) y315 (wrap64 (x8_1 - 1)) s0_0 t313) = some (r1, r2) := by first | (rw [hy315]; with_reducible exact H) | (have H2_ := (Option.bind_some _ _).symm.trans H; rw [hy315]; with_reducible exact H2_) | (have H2_ := (Option.bind_some _ _).symm.trans H; with_reducible exact H2_) | with_reducible exact H | (rw [hy315]; exact H) | exact H
               have Ny315 := Aside0.mk hy315
               clear hy315
               have H' := Aside0.mk H
               clear H
               have hnb60 := NB299_0.out
               have hnc60 := NB0_299.out
               have hcz61_0 : wc.cell? ⟨gb299, 0, none⟩ = some (.int .i64 x9_15) := (blk_cell BK299.out 0).trans rfl
               have hcz61_1 : wc.cell? ⟨gb299, 1, none⟩ = some (.int .i64 0) := (blk_cell BK299.out 1).trans rfl
               have hcz61_2 : wc.cell? ⟨gb299, 2, none⟩ = some (.int .i64 (wrap64 ((wrap64 ((x7_1.length : Int) - 1)) - (wrap64 (t308 * t310))))) := (blk_cell BK299.out 2).trans rfl
               have hcz61_3 : wc.cell? ⟨gb299, 3, none⟩ = some (.int .i64 x300003_46) := (blk_cell BK299.out 3).trans rfl
               have hfz61_0 := blk_frozen BK299.out 0
               have hfz61_1 := blk_frozen BK299.out 1
               have hfz61_2 := blk_frozen BK299.out 2
               have hfz61_3 := blk_frozen BK299.out 3
               go_wp2_with (first | ((with_reducible refine gate_builtin (b := .append) (xs := #[.tmp 79, .tmp 81]) rfl ?_); (try (refine gate_guard (by rfl) ?_; dsimp only)); at_builtin; refine Kd.R_append k37 w.heap.size rfl (.tmp 79) (.tmp 81) 25 37 (.agg #[(.int .i64 0), (.int .i64 0), (.int .i64 0), (.int .i64 0)]) 32 rfl Try.underlying25 info37 rfl (by decide) (by omega) (.slice Ao48 x7_1.length co48) x7_1 (⟨x9_15, 0, (wrap64 ((wrap64 ((x7_1.length : Int) - 1)) - (wrap64 (t308 * t310)))), x300003_46⟩ : S37) [.int .i64 x9_15, .int .i64 0, .int .i64 (wrap64 ((wrap64 ((x7_1.length : Int) - 1)) - (wrap64 (t308 * t310)))), .int .i64 x300003_46] (fun k_ => k_ ≠ gb299) (fun _ => False) rfl rfl ?aP (fun _ hk => hk.elim) ?aF ?aO (Below.refl _ _) ?aS ?aL ?_; (case aP => exact k37_mkM _ _ _ (⟨x9_15, 0, (wrap64 ((wrap64 ((x7_1.length : Int) - 1)) - (wrap64 (t308 * t310)))), x300003_46⟩ : S37)); (case aF => exact (fun k_ hk => Kd.freshB (g := gb299) (o := .cells #[.int .i64 x9_15, .int .i64 0, .int .i64 (wrap64 ((wrap64 ((x7_1.length : Int) - 1)) - (wrap64 (t308 * t310)))), .int .i64 x300003_46] 37 (0, 0)) (bvK BK299.out) k_ hk)); (case aO => exact (rvR HO_7.out)); (case aS => exact (keep_size (w := w) (g := g) (row := none) (by repeat (first | (with_reducible first | exact HK.out | apply KeepBut.set_ | apply keep_drewN | apply keep_drew | apply keep_alloc | refine keep_far ?_ GW299.out _) | exact HK.out)))); (case aL => have := LMc59.out; omega); intro v316 w62 ho hb hg hat; rw [← Ny315.out] at ho; have n0_ := Aside0.mk (blk_grown (g := gb299) (o := .cells #[.int .i64 x9_15, .int .i64 0, .int .i64 (wrap64 ((wrap64 ((x7_1.length : Int) - 1)) - (wrap64 (t308 * t310)))), .int .i64 x300003_46] 37 (0, 0)) (bvK BK299.out) hg (Kd.R_away HO_7.out (fun _ hk => hk))); have n1_ := Aside0.mk (IsS89.grown (by first | (with_reducible exact IsS89.far (IsS89.far (IsS89.far (IsS89.far (HI0.out) NB0_299.out _) NB0_299.out _) NB0_299.out _) NB0_299.out _) | repeat (first | (with_reducible first | exact HI0.out | apply IsS89.alloc | apply IsS89.drewN | apply IsS89.drew | apply IsS89.set_1 | refine IsS89.far ?_ NB0_299.out _) | exact HI0.out)) hg (IsS89.own_ne HI0.out HO_7.out (by decide))); have n2_ := Aside0.mk (below_weaken (by repeat (first | (with_reducible first | exact HB.out | apply bwA | apply bwN | apply bwD | refine below_set ?_ (IsS89.ge HI0.out) | refine below_set ?_ GE299.out) | exact HB.out)) HL.out hb); have n3_ := Aside0.mk (KeepBut.trans (by repeat (first | (with_reducible first | exact HK.out | apply KeepBut.set_ | apply keep_drewN | apply keep_drew | apply keep_alloc | refine keep_far ?_ GW299.out _) | exact HK.out)) (KeepBut.of_grown hg g) (Kd.R_base2 HO_7.out)); have n4_ := Aside0.mk (ho); clear BK299; clear HI0; clear HB; clear HK; clear HO_7; have BK299 := n0_; have HI0 := n1_; have HB := n2_; have HK := n3_; have HO317 := n4_; clear n0_ n1_ n2_ n3_ n4_; clear ho hb hg hat))
               go_roundg kj46
               case measure => have := HK1.out; have := HJ9.out; have := HJ15.out; have := HJ17.out; have := HJ46.out; omega
               case rel => exact ⟨(wrap64 (x2_1 - 1)), (y315), (wrap64 (x8_1 - 1)), (t313), rsd, rsd, H', ⟨by have := HK1.out; have := HJ9.out; have := HJ15.out; have := HJ17.out; have := HJ46.out; omega⟩, ⟨by (with_reducible repeat (first | apply Kd.R_alloc | apply Kd.R_drewN | apply Kd.R_drew)); exact Kd.R_mono HO317.out (fun _ hk => trivial)⟩, ⟨by repeat (first | (with_reducible first | exact HI0.out | apply IsS89.alloc | apply IsS89.drewN | apply IsS89.drew | apply IsS89.set_1 | refine IsS89.far ?_ NB0_299.out _) | exact HI0.out)⟩, ⟨by repeat (first | (with_reducible first | exact HK.out | apply KeepBut.set_ | apply keep_drewN | apply keep_drew | apply keep_alloc | refine keep_far ?_ GW299.out _) | exact HK.out)⟩, ⟨by repeat (first | (with_reducible first | exact HB.out | apply bwA | apply bwN | apply bwD | refine below_set ?_ (IsS89.ge HI0.out) | refine below_set ?_ GE299.out) | exact HB.out)⟩⟩
              ·rw [if_neg c59] at H
               exact absurd H (by simp)
             ·rw [if_neg c58] at H
              have c58b0 : decide (5 ≤ x9_15) = false := decide_eq_false c58
              clear c58
              by_cases c63 : x7_1.length < 4398046511104
              ·rw [if_pos c63] at H
               have LMc63 := Aside0.mk c63
               clear c63
               obtain ⟨y318, hy318⟩ : ∃ y_ : List (S37), y_ = (x7_1 ++ [(⟨x9_15, 0, (wrap64 ((wrap64 ((x7_1.length : Int) - 1)) - (wrap64 (t308 * t310)))), x300003_46⟩ : S37)]) := ⟨_, rfl⟩
               replace H : (spec_l20Draw.l0 kj46 a1 x2_1 y318 (wrap64 (x8_1 - 1)) s0_0 t313) = some (r1, r2) := by first | (rw [hy318]; with_reducible exact H) | (have H2_ := (Option.bind_some _ _).symm.trans H; rw [hy318]; with_reducible exact H2_) | (have H2_ := (Option.bind_some _ _).symm.trans H; with_reducible exact H2_) | with_reducible exact H | (rw [hy318]; exact H) | exact H
               have Ny318 := Aside0.mk hy318
               clear hy318
               have H' := Aside0.mk H
               clear H
               have hnb64 := NB299_0.out
               have hnc64 := NB0_299.out
               have hcz65_0 : wc.cell? ⟨gb299, 0, none⟩ = some (.int .i64 x9_15) := (blk_cell BK299.out 0).trans rfl
               have hcz65_1 : wc.cell? ⟨gb299, 1, none⟩ = some (.int .i64 0) := (blk_cell BK299.out 1).trans rfl
               have hcz65_2 : wc.cell? ⟨gb299, 2, none⟩ = some (.int .i64 (wrap64 ((wrap64 ((x7_1.length : Int) - 1)) - (wrap64 (t308 * t310))))) := (blk_cell BK299.out 2).trans rfl
               have hcz65_3 : wc.cell? ⟨gb299, 3, none⟩ = some (.int .i64 x300003_46) := (blk_cell BK299.out 3).trans rfl
               have hfz65_0 := blk_frozen BK299.out 0
               have hfz65_1 := blk_frozen BK299.out 1
               have hfz65_2 := blk_frozen BK299.out 2
               have hfz65_3 := blk_frozen BK299.out 3
               go_wp2_with (first | ((with_reducible refine gate_builtin (b := .append) (xs := #[.tmp 79, .tmp 81]) rfl ?_); (try (refine gate_guard (by rfl) ?_; dsimp only)); at_builtin; refine Kd.R_append k37 w.heap.size rfl (.tmp 79) (.tmp 81) 25 37 (.agg #[(.int .i64 0), (.int .i64 0), (.int .i64 0), (.int .i64 0)]) 32 rfl Try.underlying25 info37 rfl (by decide) (by omega) (.slice Ao48 x7_1.length co48) x7_1 (⟨x9_15, 0, (wrap64 ((wrap64 ((x7_1.length : Int) - 1)) - (wrap64 (t308 * t310)))), x300003_46⟩ : S37) [.int .i64 x9_15, .int .i64 0, .int .i64 (wrap64 ((wrap64 ((x7_1.length : Int) - 1)) - (wrap64 (t308 * t310)))), .int .i64 x300003_46] (fun k_ => k_ ≠ gb299) (fun _ => False) rfl rfl ?aP (fun _ hk => hk.elim) ?aF ?aO (Below.refl _ _) ?aS ?aL ?_; (case aP => exact k37_mkM _ _ _ (⟨x9_15, 0, (wrap64 ((wrap64 ((x7_1.length : Int) - 1)) - (wrap64 (t308 * t310)))), x300003_46⟩ : S37)); (case aF => exact (fun k_ hk => Kd.freshB (g := gb299) (o := .cells #[.int .i64 x9_15, .int .i64 0, .int .i64 (wrap64 ((wrap64 ((x7_1.length : Int) - 1)) - (wrap64 (t308 * t310)))), .int .i64 x300003_46] 37 (0, 0)) (bvK BK299.out) k_ hk)); (case aO => exact (rvR HO_7.out)); (case aS => exact (keep_size (w := w) (g := g) (row := none) (by repeat (first | (with_reducible first | exact HK.out | apply KeepBut.set_ | apply keep_drewN | apply keep_drew | apply keep_alloc | refine keep_far ?_ GW299.out _) | exact HK.out)))); (case aL => have := LMc63.out; omega); intro v319 w66 ho hb hg hat; rw [← Ny318.out] at ho; have n0_ := Aside0.mk (blk_grown (g := gb299) (o := .cells #[.int .i64 x9_15, .int .i64 0, .int .i64 (wrap64 ((wrap64 ((x7_1.length : Int) - 1)) - (wrap64 (t308 * t310)))), .int .i64 x300003_46] 37 (0, 0)) (bvK BK299.out) hg (Kd.R_away HO_7.out (fun _ hk => hk))); have n1_ := Aside0.mk (IsS89.grown (by first | (with_reducible exact IsS89.far (IsS89.far (IsS89.far (IsS89.far (HI0.out) NB0_299.out _) NB0_299.out _) NB0_299.out _) NB0_299.out _) | repeat (first | (with_reducible first | exact HI0.out | apply IsS89.alloc | apply IsS89.drewN | apply IsS89.drew | apply IsS89.set_1 | refine IsS89.far ?_ NB0_299.out _) | exact HI0.out)) hg (IsS89.own_ne HI0.out HO_7.out (by decide))); have n2_ := Aside0.mk (below_weaken (by repeat (first | (with_reducible first | exact HB.out | apply bwA | apply bwN | apply bwD | refine below_set ?_ (IsS89.ge HI0.out) | refine below_set ?_ GE299.out) | exact HB.out)) HL.out hb); have n3_ := Aside0.mk (KeepBut.trans (by repeat (first | (with_reducible first | exact HK.out | apply KeepBut.set_ | apply keep_drewN | apply keep_drew | apply keep_alloc | refine keep_far ?_ GW299.out _) | exact HK.out)) (KeepBut.of_grown hg g) (Kd.R_base2 HO_7.out)); have n4_ := Aside0.mk (ho); clear BK299; clear HI0; clear HB; clear HK; clear HO_7; have BK299 := n0_; have HI0 := n1_; have HB := n2_; have HK := n3_; have HO320 := n4_; clear n0_ n1_ n2_ n3_ n4_; clear ho hb hg hat))
               go_roundg kj46
               case measure => have := HK1.out; have := HJ9.out; have := HJ15.out; have := HJ17.out; have := HJ46.out; omega
               case rel => exact ⟨(x2_1), (y318), (wrap64 (x8_1 - 1)), (t313), rsd, rsd, H', ⟨by have := HK1.out; have := HJ9.out; have := HJ15.out; have := HJ17.out; have := HJ46.out; omega⟩, ⟨by (with_reducible repeat (first | apply Kd.R_alloc | apply Kd.R_drewN | apply Kd.R_drew)); exact Kd.R_mono HO320.out (fun _ hk => trivial)⟩, ⟨by repeat (first | (with_reducible first | exact HI0.out | apply IsS89.alloc | apply IsS89.drewN | apply IsS89.drew | apply IsS89.set_1 | refine IsS89.far ?_ NB0_299.out _) | exact HI0.out)⟩, ⟨by repeat (first | (with_reducible first | exact HK.out | apply KeepBut.set_ | apply keep_drewN | apply keep_drew | apply keep_alloc | refine keep_far ?_ GW299.out _) | exact HK.out)⟩, ⟨by repeat (first | (with_reducible first | exact HB.out | apply bwA | apply bwN | apply bwD | refine below_set ?_ (IsS89.ge HI0.out) | refine below_set ?_ GE299.out) | exact HB.out)⟩⟩
              ·rw [if_neg c63] at H
               exact absurd H (by simp)
   ·rw [if_neg c8] at H
    have c8b0 : decide (0 < x8_1) = false := decide_eq_false c8
    clear c8
    simp only [Option.some.injEq, Prod.mk.injEq] at H
    obtain ⟨rfl, rfl⟩ := H
    go_wp2
    go_ret
    exact ⟨_, ers, by (with_reducible repeat (first | apply Kd.R_alloc | apply Kd.R_drewN | apply Kd.R_drew)); exact HO_7.out, by repeat (first | (with_reducible first | exact HI0.out | apply IsS89.alloc | apply IsS89.drewN | apply IsS89.drew | apply IsS89.set_1) | exact HI0.out), by repeat (first | (with_reducible first | exact HB.out | apply bwA | apply bwN | apply bwD | refine below_set ?_ (IsS89.ge HI0.out)) | exact HB.out), by repeat (first | (with_reducible first | exact HK.out | apply KeepBut.set_ | apply keep_drewN | apply keep_drew | apply keep_alloc) | exact HK.out)⟩

end Go.Proofs.Ytdigdhckbhlkmaa.QFnGuessNext
