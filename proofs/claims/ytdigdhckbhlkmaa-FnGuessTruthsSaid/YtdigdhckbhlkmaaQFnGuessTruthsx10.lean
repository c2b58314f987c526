-- Written by a program of this session (mk.py). Lean checks it.
import Derived.Test.YtdigdhckbhlkmaaQFnGuessTruthsx0
import Derived.Test.YtdigdhckbhlkmaaQFnGuessTruthsx2
import Derived.Test.YtdigdhckbhlkmaaQFnGuessTruthsx3
import Derived.Test.YtdigdhckbhlkmaaQFnGuessTruthsx4
import Derived.Test.YtdigdhckbhlkmaaQFnGuessTruthsx5
import Derived.Test.YtdigdhckbhlkmaaQFnGuessTruthsx6
import Derived.Test.YtdigdhckbhlkmaaQFnGuessTruthsx9
namespace Go.Proofs.Ytdigdhckbhlkmaa.QFnGuessTruths
open Go.RowKit Go.Proofs.YtdigdhckbhlkmaaW.PrintWords Go.Proofs.YtdigdhckbhlkmaaW.PrintLast Go.Proofs.YtdigdhckbhlkmaaW.PrintMore
attribute [local go_sem] max2_int min2_int max_two min_two max_three min_three max_four min_four   -- for this text's walks alone
set_option linter.unusedVariables false
set_option linter.unusedSimpArgs false

/-! ### laws_FnGuessTruths: function 6 -/
mutual
def laws_FnGuessTruths.j0 : Nat → List (S37) → Int → Int → List Int → Bool → Option (Bool)
 | 0, _, _, _, _, _ => none
 | k + 1, x3, x4, x5, x6, x39 => if x39 = true then (some false) else ((impl_GuessLetter.f k x3 x4 x5).bind fun t382 => (laws_FnGuessTruths.l0 k x3 x4 x6 t382 x6 (x6.length : Int) 0))
def laws_FnGuessTruths.l0 : Nat → List (S37) → Int → List Int → List Int → List Int → Int → Int → Option (Bool)
 | 0, _, _, _, _, _, _, _ => none
 | k + 1, x3, x4, x6, x7, x44, x45, x46 => if x46 < x45 then (if 0 ≤ x46 then (if x46 < (x44.length : Int) then (if x46 < (x3.length : Int) then (if ((rd_T37 x3 x46).f0) = 0 then (laws_FnGuessTruths.j2 k x3 x4 x6 x7 (rd x44 x46) x44 x45 x46 ((rd x44 x46) != 1) ((rd_T37 x3 x46).f0) ((rd_T37 x3 x46).f1) ((rd_T37 x3 x46).f2) ((rd_T37 x3 x46).f3)) else (laws_FnGuessTruths.j2 k x3 x4 x6 x7 (rd x44 x46) x44 x45 x46 false ((rd_T37 x3 x46).f0) ((rd_T37 x3 x46).f1) ((rd_T37 x3 x46).f2) ((rd_T37 x3 x46).f3))) else (none)) else (none)) else (none)) else (if (x6.length : Int) = 0 then (some true) else (if (x6.length : Int) = (x3.length : Int) then (some ((x7.length : Int) == x4)) else (some false)))
def laws_FnGuessTruths.j2 : Nat → List (S37) → Int → List Int → List Int → Int → List Int → Int → Int → Bool → Int → Int → Int → Int → Option (Bool)
 | 0, _, _, _, _, _, _, _, _, _, _, _, _, _ => none
 | k + 1, x3, x4, x6, x7, x9, x44, x45, x46, x55, x388000, x388001, x388002, x388003 => if x55 = true then (laws_FnGuessTruths.j3 k x3 x4 x6 x7 x9 x44 x45 x46 x55 x388000 x388001 x388002 x388003) else (if x388000 = 1 then (if 0 ≤ x388001 then (if x388001 < (x7.length : Int) then (if x9 = (rd x7 x388001) then (if x388000 = 2 then (if 0 ≤ x388002 then (if x388002 < (x6.length : Int) then (laws_FnGuessTruths.j3 k x3 x4 x6 x7 x9 x44 x45 x46 (x9 == (rd x6 x388002)) x388000 x388001 x388002 x388003) else (none)) else (none)) else (laws_FnGuessTruths.j3 k x3 x4 x6 x7 x9 x44 x45 x46 false x388000 x388001 x388002 x388003)) else (laws_FnGuessTruths.j3 k x3 x4 x6 x7 x9 x44 x45 x46 (x9 != (rd x7 x388001)) x388000 x388001 x388002 x388003)) else (none)) else (none)) else (if x388000 = 2 then (if 0 ≤ x388002 then (if x388002 < (x6.length : Int) then (laws_FnGuessTruths.j3 k x3 x4 x6 x7 x9 x44 x45 x46 (x9 == (rd x6 x388002)) x388000 x388001 x388002 x388003) else (none)) else (none)) else (laws_FnGuessTruths.j3 k x3 x4 x6 x7 x9 x44 x45 x46 false x388000 x388001 x388002 x388003)))
def laws_FnGuessTruths.j3 : Nat → List (S37) → Int → List Int → List Int → Int → List Int → Int → Int → Bool → Int → Int → Int → Int → Option (Bool)
 | 0, _, _, _, _, _, _, _, _, _, _, _, _, _ => none
 | k + 1, x3, x4, x6, x7, x9, x44, x45, x46, x55, x388000, x388001, x388002, x388003 => if x55 = true then (some false) else (if x388000 = 3 then (if 0 ≤ x388002 then (if x388002 < (x6.length : Int) then (if 0 ≤ x388003 then (if x388003 < (x6.length : Int) then (laws_FnGuessTruths.j4 k x3 x4 x6 x7 x9 x44 x45 x46 (x9 != (wrap64 ((rd x6 x388002) * (rd x6 x388003)))) x388000 x388001 x388002 x388003) else (none)) else (none)) else (none)) else (none)) else (laws_FnGuessTruths.j4 k x3 x4 x6 x7 x9 x44 x45 x46 false x388000 x388001 x388002 x388003))
def laws_FnGuessTruths.j4 : Nat → List (S37) → Int → List Int → List Int → Int → List Int → Int → Int → Bool → Int → Int → Int → Int → Option (Bool)
 | 0, _, _, _, _, _, _, _, _, _, _, _, _, _ => none
 | k + 1, x3, x4, x6, x7, x9, x44, x45, x46, x87, x388000, x388001, x388002, x388003 => if x87 = true then (some false) else (if x388000 = 4 then (if 0 ≤ x388002 then (if x388002 < (x6.length : Int) then (if 0 ≤ x388003 then (if x388003 < (x6.length : Int) then (if x9 = (mx (rd x6 x388002) (rd x6 x388003)) then (laws_FnGuessTruths.l0 k x3 x4 x6 x7 x44 x45 (wrap64 (x46 + 1))) else (some false)) else (none)) else (none)) else (none)) else (none)) else (laws_FnGuessTruths.l0 k x3 x4 x6 x7 x44 x45 (wrap64 (x46 + 1))))
end
def laws_FnGuessTruths.f (k : Nat) (l0 : List Int) : Option (Bool) := if (l0.length : Int) > 1048576 then (some true) else ((spec_DrawGuessTruths.f k l0).bind fun bt368 => ((impl_GuessTruths.f k bt368.1 bt368.2.1 bt368.2.2).bind fun t373 => ((spec_GuessTruths.f k bt368.1 bt368.2.1 bt368.2.2).bind fun t376 => ((laws_wcInts.f k t373 t376).bind fun t379 => (if t379 = true then ((impl_GuessCount.f k bt368.1 bt368.2.1).bind fun t380 => ((spec_GuessCount.f k bt368.1 bt368.2.1).bind fun t381 => (laws_FnGuessTruths.j0 k bt368.1 bt368.2.1 bt368.2.2 t373 (t380 != t381)))) else (laws_FnGuessTruths.j0 k bt368.1 bt368.2.1 bt368.2.2 t373 true))))))
theorem laws_FnGuessTruths.mono_l : ∀ k, (∀ y0 y1 y2 y3 y4, LeO (laws_FnGuessTruths.j0 k y0 y1 y2 y3 y4) (laws_FnGuessTruths.j0 (k + 1) y0 y1 y2 y3 y4)) ∧ (∀ y0 y1 y2 y3 y4 y5 y6, LeO (laws_FnGuessTruths.l0 k y0 y1 y2 y3 y4 y5 y6) (laws_FnGuessTruths.l0 (k + 1) y0 y1 y2 y3 y4 y5 y6)) ∧ (∀ y0 y1 y2 y3 y4 y5 y6 y7 y8 y9 y10 y11 y12, LeO (laws_FnGuessTruths.j2 k y0 y1 y2 y3 y4 y5 y6 y7 y8 y9 y10 y11 y12) (laws_FnGuessTruths.j2 (k + 1) y0 y1 y2 y3 y4 y5 y6 y7 y8 y9 y10 y11 y12)) ∧ (∀ y0 y1 y2 y3 y4 y5 y6 y7 y8 y9 y10 y11 y12, LeO (laws_FnGuessTruths.j3 k y0 y1 y2 y3 y4 y5 y6 y7 y8 y9 y10 y11 y12) (laws_FnGuessTruths.j3 (k + 1) y0 y1 y2 y3 y4 y5 y6 y7 y8 y9 y10 y11 y12)) ∧ (∀ y0 y1 y2 y3 y4 y5 y6 y7 y8 y9 y10 y11 y12, LeO (laws_FnGuessTruths.j4 k y0 y1 y2 y3 y4 y5 y6 y7 y8 y9 y10 y11 y12) (laws_FnGuessTruths.j4 (k + 1) y0 y1 y2 y3 y4 y5 y6 y7 y8 y9 y10 y11 y12))
 | 0 => ⟨fun _ _ _ _ _ r h => by simp [laws_FnGuessTruths.j0] at h, fun _ _ _ _ _ _ _ r h => by simp [laws_FnGuessTruths.l0] at h, fun _ _ _ _ _ _ _ _ _ _ _ _ _ r h => by simp [laws_FnGuessTruths.j2] at h, fun _ _ _ _ _ _ _ _ _ _ _ _ _ r h => by simp [laws_FnGuessTruths.j3] at h, fun _ _ _ _ _ _ _ _ _ _ _ _ _ r h => by simp [laws_FnGuessTruths.j4] at h⟩
 | k + 1 => by
  obtain ⟨ih0, ih1, ih2, ih3, ih4⟩ := laws_FnGuessTruths.mono_l k
  refine ⟨?_, ?_, ?_, ?_, ?_⟩
  ·intro y0 y1 y2 y3 y4
   unfold laws_FnGuessTruths.j0
   repeat' first
   | (with_reducible exact ih0 _ _ _ _ _)
   | (with_reducible exact ih1 _ _ _ _ _ _ _)
   | (with_reducible exact ih2 _ _ _ _ _ _ _ _ _ _ _ _ _)
   | (with_reducible exact ih3 _ _ _ _ _ _ _ _ _ _ _ _ _)
   | (with_reducible exact ih4 _ _ _ _ _ _ _ _ _ _ _ _ _)
   | (with_reducible exact impl_GuessCount.mono _ _ _)
   | (with_reducible exact impl_GuessLetter.mono _ _ _ _)
   | (with_reducible exact impl_GuessTruths.mono _ _ _ _)
   | (with_reducible exact laws_wcInts.mono _ _ _)
   | (with_reducible exact spec_DrawGuessTruths.mono _ _)
   | (with_reducible exact spec_GuessCount.mono _ _ _)
   | (with_reducible exact spec_GuessTruths.mono _ _ _ _)
   | (with_reducible exact LeO.refl _)
   | (with_reducible exact LeO.none _)
   | (with_reducible refine LeO.ite ?_ ?_)
   | (with_reducible refine LeO.bind ?_ (fun _ => ?_))
   | exact ih0 _ _ _ _ _
   | exact ih1 _ _ _ _ _ _ _
   | exact ih2 _ _ _ _ _ _ _ _ _ _ _ _ _
   | exact ih3 _ _ _ _ _ _ _ _ _ _ _ _ _
   | exact ih4 _ _ _ _ _ _ _ _ _ _ _ _ _
   | exact impl_GuessCount.mono _ _ _
   | exact impl_GuessLetter.mono _ _ _ _
   | exact impl_GuessTruths.mono _ _ _ _
   | exact laws_wcInts.mono _ _ _
   | exact spec_DrawGuessTruths.mono _ _
   | exact spec_GuessCount.mono _ _ _
   | exact spec_GuessTruths.mono _ _ _ _
   | exact LeO.none _
   | refine LeO.ite ?_ ?_
   | refine LeO.bind ?_ (fun _ => ?_)
  ·intro y0 y1 y2 y3 y4 y5 y6
   unfold laws_FnGuessTruths.l0
   repeat' first
   | (with_reducible exact ih0 _ _ _ _ _)
   | (with_reducible exact ih1 _ _ _ _ _ _ _)
   | (with_reducible exact ih2 _ _ _ _ _ _ _ _ _ _ _ _ _)
   | (with_reducible exact ih3 _ _ _ _ _ _ _ _ _ _ _ _ _)
   | (with_reducible exact ih4 _ _ _ _ _ _ _ _ _ _ _ _ _)
   | (with_reducible exact impl_GuessCount.mono _ _ _)
   | (with_reducible exact impl_GuessLetter.mono _ _ _ _)
   | (with_reducible exact impl_GuessTruths.mono _ _ _ _)
   | (with_reducible exact laws_wcInts.mono _ _ _)
   | (with_reducible exact spec_DrawGuessTruths.mono _ _)
   | (with_reducible exact spec_GuessCount.mono _ _ _)
   | (with_reducible exact spec_GuessTruths.mono _ _ _ _)
   | (with_reducible exact LeO.refl _)
   | (with_reducible exact LeO.none _)
   | (with_reducible refine LeO.ite ?_ ?_)
   | (with_reducible refine LeO.bind ?_ (fun _ => ?_))
   | exact ih0 _ _ _ _ _
   | exact ih1 _ _ _ _ _ _ _
   | exact ih2 _ _ _ _ _ _ _ _ _ _ _ _ _
   | exact ih3 _ _ _ _ _ _ _ _ _ _ _ _ _
   | exact ih4 _ _ _ _ _ _ _ _ _ _ _ _ _
   | exact impl_GuessCount.mono _ _ _
   | exact impl_GuessLetter.mono _ _ _ _
   | exact impl_GuessTruths.mono _ _ _ _
   | exact laws_wcInts.mono _ _ _
   | exact spec_DrawGuessTruths.mono _ _
   | exact spec_GuessCount.mono _ _ _
   | exact spec_GuessTruths.mono _ _ _ _
   | exact LeO.none _
   | refine LeO.ite ?_ ?_
   | refine LeO.bind ?_ (fun _ => ?_)
  ·intro y0 y1 y2 y3 y4 y5 y6 y7 y8 y9 y10 y11 y12
   unfold laws_FnGuessTruths.j2
   repeat' first
   | (with_reducible exact ih0 _ _ _ _ _)
   | (with_reducible exact ih1 _ _ _ _ _ _ _)
   | (with_reducible exact ih2 _ _ _ _ _ _ _ _ _ _ _ _ _)
   | (with_reducible exact ih3 _ _ _ _ _ _ _ _ _ _ _ _ _)
   | (with_reducible exact ih4 _ _ _ _ _ _ _ _ _ _ _ _ _)
   | (with_reducible exact impl_GuessCount.mono _ _ _)
   | (with_reducible exact impl_GuessLetter.mono _ _ _ _)
   | (with_reducible exact impl_GuessTruths.mono _ _ _ _)
   | (with_reducible exact laws_wcInts.mono _ _ _)
   | (with_reducible exact spec_DrawGuessTruths.mono _ _)
   | (with_reducible exact spec_GuessCount.mono _ _ _)
   | (with_reducible exact spec_GuessTruths.mono _ _ _ _)
   | (with_reducible exact LeO.refl _)
   | (with_reducible exact LeO.none _)
   | (with_reducible refine LeO.ite ?_ ?_)
   | (with_reducible refine LeO.bind ?_ (fun _ => ?_))
   | exact ih0 _ _ _ _ _
   | exact ih1 _ _ _ _ _ _ _
   | exact ih2 _ _ _ _ _ _ _ _ _ _ _ _ _
   | exact ih3 _ _ _ _ _ _ _ _ _ _ _ _ _
   | exact ih4 _ _ _ _ _ _ _ _ _ _ _ _ _
   | exact impl_GuessCount.mono _ _ _
   | exact impl_GuessLetter.mono _ _ _ _
   | exact impl_GuessTruths.mono _ _ _ _
   | exact laws_wcInts.mono _ _ _
   | exact spec_DrawGuessTruths.mono _ _
   | exact spec_GuessCount.mono _ _ _
   | exact spec_GuessTruths.mono _ _ _ _
   | exact LeO.none _
   | refine LeO.ite ?_ ?_
   | refine LeO.bind ?_ (fun _ => ?_)
  ·intro y0 y1 y2 y3 y4 y5 y6 y7 y8 y9 y10 y11 y12
   unfold laws_FnGuessTruths.j3
   repeat' first
   | (with_reducible exact ih0 _ _ _ _ _)
   | (with_reducible exact ih1 _ _ _ _ _ _ _)
   | (with_reducible exact ih2 _ _ _ _ _ _ _ _ _ _ _ _ _)
   | (with_reducible exact ih3 _ _ _ _ _ _ _ _ _ _ _ _ _)
   | (with_reducible exact ih4 _ _ _ _ _ _ _ _ _ _ _ _ _)
   | (with_reducible exact impl_GuessCount.mono _ _ _)
   | (with_reducible exact impl_GuessLetter.mono _ _ _ _)
   | (with_reducible exact impl_GuessTruths.mono _ _ _ _)
   | (with_reducible exact laws_wcInts.mono _ _ _)
   | (with_reducible exact spec_DrawGuessTruths.mono _ _)
   | (with_reducible exact spec_GuessCount.mono _ _ _)
   | (with_reducible exact spec_GuessTruths.mono _ _ _ _)
   | (with_reducible exact LeO.refl _)
   | (with_reducible exact LeO.none _)
   | (with_reducible refine LeO.ite ?_ ?_)
   | (with_reducible refine LeO.bind ?_ (fun _ => ?_))
   | exact ih0 _ _ _ _ _
   | exact ih1 _ _ _ _ _ _ _
   | exact ih2 _ _ _ _ _ _ _ _ _ _ _ _ _
   | exact ih3 _ _ _ _ _ _ _ _ _ _ _ _ _
   | exact ih4 _ _ _ _ _ _ _ _ _ _ _ _ _
   | exact impl_GuessCount.mono _ _ _
   | exact impl_GuessLetter.mono _ _ _ _
   | exact impl_GuessTruths.mono _ _ _ _
   | exact laws_wcInts.mono _ _ _
   | exact spec_DrawGuessTruths.mono _ _
   | exact spec_GuessCount.mono _ _ _
   | exact spec_GuessTruths.mono _ _ _ _
   | exact LeO.none _
   | refine LeO.ite ?_ ?_
   | refine LeO.bind ?_ (fun _ => ?_)
  ·intro y0 y1 y2 y3 y4 y5 y6 y7 y8 y9 y10 y11 y12
   unfold laws_FnGuessTruths.j4
   repeat' first
   | (with_reducible exact ih0 _ _ _ _ _)
   | (with_reducible exact ih1 _ _ _ _ _ _ _)
   | (with_reducible exact ih2 _ _ _ _ _ _ _ _ _ _ _ _ _)
   | (with_reducible exact ih3 _ _ _ _ _ _ _ _ _ _ _ _ _)
   | (with_reducible exact ih4 _ _ _ _ _ _ _ _ _ _ _ _ _)
   | (with_reducible exact impl_GuessCount.mono _ _ _)
   | (with_reducible exact impl_GuessLetter.mono _ _ _ _)
   | (with_reducible exact impl_GuessTruths.mono _ _ _ _)
   | (with_reducible exact laws_wcInts.mono _ _ _)
   | (with_reducible exact spec_DrawGuessTruths.mono _ _)
   | (with_reducible exact spec_GuessCount.mono _ _ _)
   | (with_reducible exact spec_GuessTruths.mono _ _ _ _)
   | (with_reducible exact LeO.refl _)
   | (with_reducible exact LeO.none _)
   | (with_reducible refine LeO.ite ?_ ?_)
   | (with_reducible refine LeO.bind ?_ (fun _ => ?_))
   | exact ih0 _ _ _ _ _
   | exact ih1 _ _ _ _ _ _ _
   | exact ih2 _ _ _ _ _ _ _ _ _ _ _ _ _
   | exact ih3 _ _ _ _ _ _ _ _ _ _ _ _ _
   | exact ih4 _ _ _ _ _ _ _ _ _ _ _ _ _
   | exact impl_GuessCount.mono _ _ _
   | exact impl_GuessLetter.mono _ _ _ _
   | exact impl_GuessTruths.mono _ _ _ _
   | exact laws_wcInts.mono _ _ _
   | exact spec_DrawGuessTruths.mono _ _
   | exact spec_GuessCount.mono _ _ _
   | exact spec_GuessTruths.mono _ _ _ _
   | exact LeO.none _
   | refine LeO.ite ?_ ?_
   | refine LeO.bind ?_ (fun _ => ?_)
theorem laws_FnGuessTruths.mono : ∀ a0 k, LeO (laws_FnGuessTruths.f k a0) (laws_FnGuessTruths.f (k + 1) a0) := by
 intro a0 k
 obtain ⟨ih0, ih1, ih2, ih3, ih4⟩ := laws_FnGuessTruths.mono_l k
 unfold laws_FnGuessTruths.f
 repeat' first
   | (with_reducible exact ih0 _ _ _ _ _)
   | (with_reducible exact ih1 _ _ _ _ _ _ _)
   | (with_reducible exact ih2 _ _ _ _ _ _ _ _ _ _ _ _ _)
   | (with_reducible exact ih3 _ _ _ _ _ _ _ _ _ _ _ _ _)
   | (with_reducible exact ih4 _ _ _ _ _ _ _ _ _ _ _ _ _)
   | (with_reducible exact impl_GuessCount.mono _ _ _)
   | (with_reducible exact impl_GuessLetter.mono _ _ _ _)
   | (with_reducible exact impl_GuessTruths.mono _ _ _ _)
   | (with_reducible exact laws_wcInts.mono _ _ _)
   | (with_reducible exact spec_DrawGuessTruths.mono _ _)
   | (with_reducible exact spec_GuessCount.mono _ _ _)
   | (with_reducible exact spec_GuessTruths.mono _ _ _ _)
   | (with_reducible exact LeO.refl _)
   | (with_reducible exact LeO.none _)
   | (with_reducible refine LeO.ite ?_ ?_)
   | (with_reducible refine LeO.bind ?_ (fun _ => ?_))
   | exact ih0 _ _ _ _ _
   | exact ih1 _ _ _ _ _ _ _
   | exact ih2 _ _ _ _ _ _ _ _ _ _ _ _ _
   | exact ih3 _ _ _ _ _ _ _ _ _ _ _ _ _
   | exact ih4 _ _ _ _ _ _ _ _ _ _ _ _ _
   | exact impl_GuessCount.mono _ _ _
   | exact impl_GuessLetter.mono _ _ _ _
   | exact impl_GuessTruths.mono _ _ _ _
   | exact laws_wcInts.mono _ _ _
   | exact spec_DrawGuessTruths.mono _ _
   | exact spec_GuessCount.mono _ _ _
   | exact spec_GuessTruths.mono _ _ _ _
   | exact LeO.none _
   | refine LeO.ite ?_ ?_
   | refine LeO.bind ?_ (fun _ => ?_)
set_option maxHeartbeats 8000000 in
set_option maxRecDepth 100000 in
theorem laws_FnGuessTruths.calls (k : Nat) (A0 : Option Addr) (c0 : Nat) (l0 : List Int) (r : Bool) (w : World) (hr0 : Kd.C (Kd.int .u8) w A0 l0.length l0) (hc0 : l0.length ≤ c0) (h : laws_FnGuessTruths.f k l0 = some r) :
  Calls Try.prog 6 #[.slice A0 l0.length c0] w fun e w' => e = .returned (.bool r) ∧ Below w.heap.size w w' := by
 have hu37 := Try.underlying37
 have HR0 := Aside0.mk hr0
 have HC0 := Aside0.mk hc0
 clear hr0 hc0
 have HB := Aside0.mk (Below.refl w.heap.size w)
 have H : (if (l0.length : Int) > 1048576 then (some true) else ((spec_DrawGuessTruths.f k l0).bind fun bt368 => ((impl_GuessTruths.f k bt368.1 bt368.2.1 bt368.2.2).bind fun t373 => ((spec_GuessTruths.f k bt368.1 bt368.2.1 bt368.2.2).bind fun t376 => ((laws_wcInts.f k t373 t376).bind fun t379 => (if t379 = true then ((impl_GuessCount.f k bt368.1 bt368.2.1).bind fun t380 => ((spec_GuessCount.f k bt368.1 bt368.2.1).bind fun t381 => (laws_FnGuessTruths.j0 k bt368.1 bt368.2.1 bt368.2.2 t373 (t380 != t381)))) else (laws_FnGuessTruths.j0 k bt368.1 bt368.2.1 bt368.2.2 t373 true))))))) = some r := h
 clear h
 by_cases c2 : (l0.length : Int) > 1048576
 ·rw [if_pos c2] at H
  have c2b0 : decide (1048576 < (l0.length : Int)) = true := decide_eq_true c2
  have c2b1 : decide (1048576 < l0.length) = true := decide_eq_true (by omega)
  clear c2
  obtain rfl := Option.some.inj H
  go_enter Try.func6, Try.ntmps6
  go_wp2
  repeat (go_quiet (fail); try go_wp2)
  go_ret
  exact ⟨by first | rfl | (simp [errW_none, errW_some] <;> rfl) | (simp [*, errW_none, errW_some] <;> rfl), by repeat (first | (with_reducible first | exact HB.out | apply bwA | apply bwN | apply bwD) | exact HB.out)⟩
 ·rw [if_neg c2] at H
  have c2b0 : decide (1048576 < (l0.length : Int)) = false := decide_eq_false c2
  have c2b1 : decide (1048576 < l0.length) = false := decide_eq_false (by omega)
  clear c2
  replace H := Option.bind_eq_some_iff.mp H
  obtain ⟨⟨t368, t369, t370⟩, A30, H⟩ := H
  replace H : ((impl_GuessTruths.f k t368 t369 t370).bind fun t373 => ((spec_GuessTruths.f k t368 t369 t370).bind fun t376 => ((laws_wcInts.f k t373 t376).bind fun t379 => (if t379 = true then ((impl_GuessCount.f k t368 t369).bind fun t380 => ((spec_GuessCount.f k t368 t369).bind fun t381 => (laws_FnGuessTruths.j0 k t368 t369 t370 t373 (t380 != t381)))) else (laws_FnGuessTruths.j0 k t368 t369 t370 t373 true))))) = some r := H
  have A3 := Aside0.mk A30
  clear A30
  replace H := Option.bind_eq_some_iff.mp H
  obtain ⟨t373, A40, H⟩ := H
  replace H : ((spec_GuessTruths.f k t368 t369 t370).bind fun t376 => ((laws_wcInts.f k t373 t376).bind fun t379 => (if t379 = true then ((impl_GuessCount.f k t368 t369).bind fun t380 => ((spec_GuessCount.f k t368 t369).bind fun t381 => (laws_FnGuessTruths.j0 k t368 t369 t370 t373 (t380 != t381)))) else (laws_FnGuessTruths.j0 k t368 t369 t370 t373 true)))) = some r := H
  have A4 := Aside0.mk A40
  clear A40
  have HC5 := Aside0.mk H
  clear H
  go_enter Try.func6, Try.ntmps6
  go_upto_region 5 with (first | (go_at_call 28; (with_reducible refine (spec_DrawGuessTruths.calls k _ _ l0 t368 t369 t370 _ ?side1 ?side2 A3.out).mono ?_); (case side1 => repeat (first | exact HR0.out | (with_reducible refine Kd.C_alloc ?_ _) | (with_reducible refine Kd.C_drewN ?_ _) | (with_reducible refine Kd.C_drew ?_))); (case side2 => exact HC0.out); rintro e w6 ⟨v371, rfl, ho0, hb⟩; have n0_ := Aside0.mk (Kd.R_lower ho0 (below_size (by repeat (first | (with_reducible first | exact HB.out | apply bwA | apply bwN | apply bwD) | exact HB.out)))); have n1_ := Aside0.mk (below_step (by repeat (first | (with_reducible first | exact HB.out | apply bwA | apply bwN | apply bwD) | exact HB.out)) hb); clear HB; have HO372 := n0_; have HB := n1_; clear n0_ n1_; (try clear hb); (try clear hb2); (try clear hk); (try clear hi); (try clear ho0); obtain ⟨Ao7, co7, eo7⟩ := Kd.R_slice HO372.out; subst eo7) | (go_at_call 21; (with_reducible refine (impl_GuessTruths.calls k _ _ t368 t369 t370 t373 _ ?side1 ?side2 A4.out).mono ?_); (case side1 => repeat (first | exact (Kd.R_reads' HO372.out).2.2 | (with_reducible refine Kd.C_alloc ?_ _) | (with_reducible refine Kd.C_drewN ?_ _) | (with_reducible refine Kd.C_drew ?_))); (case side2 => exact (Kd.R_reads' HO372.out).2.1); rintro e w8 ⟨v374, rfl, ho0, hb⟩; have n0_ := Aside0.mk (Kd.R_below (by (with_reducible repeat (first | apply Kd.R_alloc | apply Kd.R_drewN | apply Kd.R_drew)); exact HO372.out) hb); have n1_ := Aside0.mk (Kd.R_lower ho0 (below_size (by repeat (first | (with_reducible first | exact HB.out | apply bwA | apply bwN | apply bwD) | exact HB.out)))); have n2_ := Aside0.mk (below_step (by repeat (first | (with_reducible first | exact HB.out | apply bwA | apply bwN | apply bwD) | exact HB.out)) hb); clear HO372; clear HB; have HO372 := n0_; have HO375 := n1_; have HB := n2_; clear n0_ n1_ n2_; (try clear hb); (try clear hb2); (try clear hk); (try clear hi); (try clear ho0)))
  repeat (go_quiet (first | (go_at_call 28; (with_reducible refine (spec_DrawGuessTruths.calls k _ _ l0 t368 t369 t370 _ ?side1 ?side2 A3.out).mono ?_); (case side1 => repeat (first | exact HR0.out | (with_reducible refine Kd.C_alloc ?_ _) | (with_reducible refine Kd.C_drewN ?_ _) | (with_reducible refine Kd.C_drew ?_))); (case side2 => exact HC0.out); rintro e w6 ⟨v371, rfl, ho0, hb⟩; have n0_ := Aside0.mk (Kd.R_lower ho0 (below_size (by repeat (first | (with_reducible first | exact HB.out | apply bwA | apply bwN | apply bwD) | exact HB.out)))); have n1_ := Aside0.mk (below_step (by repeat (first | (with_reducible first | exact HB.out | apply bwA | apply bwN | apply bwD) | exact HB.out)) hb); clear HB; have HO372 := n0_; have HB := n1_; clear n0_ n1_; (try clear hb); (try clear hb2); (try clear hk); (try clear hi); (try clear ho0); obtain ⟨Ao7, co7, eo7⟩ := Kd.R_slice HO372.out; subst eo7) | (go_at_call 21; (with_reducible refine (impl_GuessTruths.calls k _ _ t368 t369 t370 t373 _ ?side1 ?side2 A4.out).mono ?_); (case side1 => repeat (first | exact (Kd.R_reads' HO372.out).2.2 | (with_reducible refine Kd.C_alloc ?_ _) | (with_reducible refine Kd.C_drewN ?_ _) | (with_reducible refine Kd.C_drew ?_))); (case side2 => exact (Kd.R_reads' HO372.out).2.1); rintro e w8 ⟨v374, rfl, ho0, hb⟩; have n0_ := Aside0.mk (Kd.R_below (by (with_reducible repeat (first | apply Kd.R_alloc | apply Kd.R_drewN | apply Kd.R_drew)); exact HO372.out) hb); have n1_ := Aside0.mk (Kd.R_lower ho0 (below_size (by repeat (first | (with_reducible first | exact HB.out | apply bwA | apply bwN | apply bwD) | exact HB.out)))); have n2_ := Aside0.mk (below_step (by repeat (first | (with_reducible first | exact HB.out | apply bwA | apply bwN | apply bwD) | exact HB.out)) hb); clear HO372; clear HB; have HO372 := n0_; have HO375 := n1_; have HB := n2_; clear n0_ n1_ n2_; (try clear hb); (try clear hb2); (try clear hk); (try clear hi); (try clear ho0))); go_upto_region 5 with (first | (go_at_call 28; (with_reducible refine (spec_DrawGuessTruths.calls k _ _ l0 t368 t369 t370 _ ?side1 ?side2 A3.out).mono ?_); (case side1 => repeat (first | exact HR0.out | (with_reducible refine Kd.C_alloc ?_ _) | (with_reducible refine Kd.C_drewN ?_ _) | (with_reducible refine Kd.C_drew ?_))); (case side2 => exact HC0.out); rintro e w6 ⟨v371, rfl, ho0, hb⟩; have n0_ := Aside0.mk (Kd.R_lower ho0 (below_size (by repeat (first | (with_reducible first | exact HB.out | apply bwA | apply bwN | apply bwD) | exact HB.out)))); have n1_ := Aside0.mk (below_step (by repeat (first | (with_reducible first | exact HB.out | apply bwA | apply bwN | apply bwD) | exact HB.out)) hb); clear HB; have HO372 := n0_; have HB := n1_; clear n0_ n1_; (try clear hb); (try clear hb2); (try clear hk); (try clear hi); (try clear ho0); obtain ⟨Ao7, co7, eo7⟩ := Kd.R_slice HO372.out; subst eo7) | (go_at_call 21; (with_reducible refine (impl_GuessTruths.calls k _ _ t368 t369 t370 t373 _ ?side1 ?side2 A4.out).mono ?_); (case side1 => repeat (first | exact (Kd.R_reads' HO372.out).2.2 | (with_reducible refine Kd.C_alloc ?_ _) | (with_reducible refine Kd.C_drewN ?_ _) | (with_reducible refine Kd.C_drew ?_))); (case side2 => exact (Kd.R_reads' HO372.out).2.1); rintro e w8 ⟨v374, rfl, ho0, hb⟩; have n0_ := Aside0.mk (Kd.R_below (by (with_reducible repeat (first | apply Kd.R_alloc | apply Kd.R_drewN | apply Kd.R_drew)); exact HO372.out) hb); have n1_ := Aside0.mk (Kd.R_lower ho0 (below_size (by repeat (first | (with_reducible first | exact HB.out | apply bwA | apply bwN | apply bwD) | exact HB.out)))); have n2_ := Aside0.mk (below_step (by repeat (first | (with_reducible first | exact HB.out | apply bwA | apply bwN | apply bwD) | exact HB.out)) hb); clear HO372; clear HB; have HO372 := n0_; have HO375 := n1_; have HB := n2_; clear n0_ n1_ n2_; (try clear hb); (try clear hb2); (try clear hk); (try clear hi); (try clear ho0))))
  (try simp only [Act.put, List.setIfInBounds_toArray, List.set_cons_zero, List.set_cons_succ])
  go_cut [39] (fun v39 wc => ∃ (kq : Nat) (x39_4 : Bool), v39 = .bool x39_4 ∧ Aside0 (laws_FnGuessTruths.j0 kq t368 t369 t370 t373 x39_4 = some r) ∧ Aside0 (kq ≤ k) ∧ Aside0 (Kd.R k37 37 wc w.heap.size (fun _ => True) (.slice Ao7 t368.length co7) t368) ∧ Aside0 (Kd.R (Kd.int .i64) 3 wc w.heap.size (fun _ => True) v374 t373) ∧ Aside0 (Below w.heap.size w wc))
  case first =>
   have H := HC5.out
   clear HC5
   replace H := Option.bind_eq_some_iff.mp H
   obtain ⟨t376, A90, H⟩ := H
   replace H : ((laws_wcInts.f k t373 t376).bind fun t379 => (if t379 = true then ((impl_GuessCount.f k t368 t369).bind fun t380 => ((spec_GuessCount.f k t368 t369).bind fun t381 => (laws_FnGuessTruths.j0 k t368 t369 t370 t373 (t380 != t381)))) else (laws_FnGuessTruths.j0 k t368 t369 t370 t373 true))) = some r := H
   have A9 := Aside0.mk A90
   clear A90
   replace H := Option.bind_eq_some_iff.mp H
   obtain ⟨t379, A100, H⟩ := H
   replace H : (if t379 = true then ((impl_GuessCount.f k t368 t369).bind fun t380 => ((spec_GuessCount.f k t368 t369).bind fun t381 => (laws_FnGuessTruths.j0 k t368 t369 t370 t373 (t380 != t381)))) else (laws_FnGuessTruths.j0 k t368 t369 t370 t373 true)) = some r := H
   have A10 := Aside0.mk A100
   clear A100
   by_cases c11 : t379 = true
   ·subst c11
    have H1 : ((impl_GuessCount.f k t368 t369).bind fun t380 => ((spec_GuessCount.f k t368 t369).bind fun t381 => (laws_FnGuessTruths.j0 k t368 t369 t370 t373 (t380 != t381)))) = some r := by rw [if_pos rfl] at H; exact H
    clear H
    have H := H1
    clear H1
    replace H := Option.bind_eq_some_iff.mp H
    obtain ⟨t380, A120, H⟩ := H
    replace H : ((spec_GuessCount.f k t368 t369).bind fun t381 => (laws_FnGuessTruths.j0 k t368 t369 t370 t373 (t380 != t381))) = some r := H
    have A12 := Aside0.mk A120
    clear A120
    replace H := Option.bind_eq_some_iff.mp H
    obtain ⟨t381, A130, H⟩ := H
    replace H : (laws_FnGuessTruths.j0 k t368 t369 t370 t373 (t380 != t381)) = some r := H
    have A13 := Aside0.mk A130
    clear A130
    have H' := Aside0.mk H
    clear H
    go_wp2_with (first | (go_at_call 23; (with_reducible refine (spec_GuessTruths.calls k _ _ t368 t369 t370 t376 _ ?side1 ?side2 A9.out).mono ?_); (case side1 => repeat (first | exact (Kd.R_reads' HO372.out).2.2 | (with_reducible refine Kd.C_alloc ?_ _) | (with_reducible refine Kd.C_drewN ?_ _) | (with_reducible refine Kd.C_drew ?_))); (case side2 => exact (Kd.R_reads' HO372.out).2.1); rintro e w14 ⟨v377, rfl, ho0, hb⟩; have n0_ := Aside0.mk (Kd.R_below (by (with_reducible repeat (first | apply Kd.R_alloc | apply Kd.R_drewN | apply Kd.R_drew)); exact HO372.out) hb); have n1_ := Aside0.mk (Kd.R_elder' (by (with_reducible repeat (first | apply Kd.R_alloc | apply Kd.R_drewN | apply Kd.R_drew)); exact HO375.out) (Kd.R_base ho0) hb); have n2_ := Aside0.mk (Kd.R_lower (Kd.R_new' ho0 (Kd.R_lt (by (with_reducible repeat (first | apply Kd.R_alloc | apply Kd.R_drewN | apply Kd.R_drew)); exact HO375.out))) (below_size (by repeat (first | (with_reducible first | exact HB.out | apply bwA | apply bwN | apply bwD) | exact HB.out)))); have n3_ := Aside0.mk (below_step (by repeat (first | (with_reducible first | exact HB.out | apply bwA | apply bwN | apply bwD) | exact HB.out)) hb); clear HO372; clear HO375; clear HB; have HO372 := n0_; have HO375 := n1_; have HO378 := n2_; have HB := n3_; clear n0_ n1_ n2_ n3_; (try clear hb); (try clear hb2); (try clear hk); (try clear hi); (try clear ho0); obtain ⟨Ao15, co15, eo15⟩ := Kd.R_slice HO375.out; subst eo15; obtain ⟨Ao16, co16, eo16⟩ := Kd.R_slice HO378.out; subst eo16) | (go_at_call 18; (with_reducible refine (laws_wcInts.calls k _ _ t373 _ _ t376 true _ ?side1 ?side2 ?side3 ?side4 A10.out).mono ?_); (case side1 => repeat (first | exact (Kd.R_reads' HO375.out).2.2 | (with_reducible refine Kd.C_alloc ?_ _) | (with_reducible refine Kd.C_drewN ?_ _) | (with_reducible refine Kd.C_drew ?_))); (case side2 => exact (Kd.R_reads' HO375.out).2.1); (case side3 => repeat (first | exact (Kd.R_reads' HO378.out).2.2 | (with_reducible refine Kd.C_alloc ?_ _) | (with_reducible refine Kd.C_drewN ?_ _) | (with_reducible refine Kd.C_drew ?_))); (case side4 => exact (Kd.R_reads' HO378.out).2.1); rintro e w' ⟨rfl, ⟨nd, rfl⟩⟩; (try first | exact ⟨rfl, _, World.drewN_drewN _ _ _⟩ | exact ⟨rfl, _, Eq.trans (World.drewN_drewN _ _ _) (congrArg (World.drewN _) (Nat.add_assoc _ _ _))⟩)) | (go_at_call 29; (with_reducible refine (impl_GuessCount.calls k _ _ t368 t369 t380 _ ?side1 ?side2 A12.out).mono ?_); (case side1 => repeat (first | exact (Kd.R_reads' HO372.out).2.2 | (with_reducible refine Kd.C_alloc ?_ _) | (with_reducible refine Kd.C_drewN ?_ _) | (with_reducible refine Kd.C_drew ?_))); (case side2 => exact (Kd.R_reads' HO372.out).2.1); rintro e w17 ⟨rfl, hb⟩; have n0_ := Aside0.mk (Kd.R_below (by (with_reducible repeat (first | apply Kd.R_alloc | apply Kd.R_drewN | apply Kd.R_drew)); exact HO372.out) hb); have n1_ := Aside0.mk (Kd.R_below (by (with_reducible repeat (first | apply Kd.R_alloc | apply Kd.R_drewN | apply Kd.R_drew)); exact HO375.out) hb); have n2_ := Aside0.mk (Kd.R_below (by (with_reducible repeat (first | apply Kd.R_alloc | apply Kd.R_drewN | apply Kd.R_drew)); exact HO378.out) hb); have n3_ := Aside0.mk (below_step (by repeat (first | (with_reducible first | exact HB.out | apply bwA | apply bwN | apply bwD) | exact HB.out)) hb); clear HO372; clear HO375; clear HO378; clear HB; have HO372 := n0_; have HO375 := n1_; have HO378 := n2_; have HB := n3_; clear n0_ n1_ n2_ n3_; (try clear hb); (try clear hb2); (try clear hk); (try clear hi)) | (go_at_call 30; (with_reducible refine (spec_GuessCount.calls k _ _ t368 t369 t381 _ ?side1 ?side2 A13.out).mono ?_); (case side1 => repeat (first | exact (Kd.R_reads' HO372.out).2.2 | (with_reducible refine Kd.C_alloc ?_ _) | (with_reducible refine Kd.C_drewN ?_ _) | (with_reducible refine Kd.C_drew ?_))); (case side2 => exact (Kd.R_reads' HO372.out).2.1); rintro e w18 ⟨rfl, hb⟩; have n0_ := Aside0.mk (Kd.R_below (by (with_reducible repeat (first | apply Kd.R_alloc | apply Kd.R_drewN | apply Kd.R_drew)); exact HO372.out) hb); have n1_ := Aside0.mk (Kd.R_below (by (with_reducible repeat (first | apply Kd.R_alloc | apply Kd.R_drewN | apply Kd.R_drew)); exact HO375.out) hb); have n2_ := Aside0.mk (Kd.R_below (by (with_reducible repeat (first | apply Kd.R_alloc | apply Kd.R_drewN | apply Kd.R_drew)); exact HO378.out) hb); have n3_ := Aside0.mk (below_step (by repeat (first | (with_reducible first | exact HB.out | apply bwA | apply bwN | apply bwD) | exact HB.out)) hb); clear HO372; clear HO375; clear HO378; clear HB; have HO372 := n0_; have HO375 := n1_; have HO378 := n2_; have HB := n3_; clear n0_ n1_ n2_ n3_; (try clear hb); (try clear hb2); (try clear hk); (try clear hi)))
    repeat (go_quiet (first | (go_at_call 23; (with_reducible refine (spec_GuessTruths.calls k _ _ t368 t369 t370 t376 _ ?side1 ?side2 A9.out).mono ?_); (case side1 => repeat (first | exact (Kd.R_reads' HO372.out).2.2 | (with_reducible refine Kd.C_alloc ?_ _) | (with_reducible refine Kd.C_drewN ?_ _) | (with_reducible refine Kd.C_drew ?_))); (case side2 => exact (Kd.R_reads' HO372.out).2.1); rintro e w14 ⟨v377, rfl, ho0, hb⟩; have n0_ := Aside0.mk (Kd.R_below (by (with_reducible repeat (first | apply Kd.R_alloc | apply Kd.R_drewN | apply Kd.R_drew)); exact HO372.out) hb); have n1_ := Aside0.mk (Kd.R_elder' (by (with_reducible repeat (first | apply Kd.R_alloc | apply Kd.R_drewN | apply Kd.R_drew)); exact HO375.out) (Kd.R_base ho0) hb); have n2_ := Aside0.mk (Kd.R_lower (Kd.R_new' ho0 (Kd.R_lt (by (with_reducible repeat (first | apply Kd.R_alloc | apply Kd.R_drewN | apply Kd.R_drew)); exact HO375.out))) (below_size (by repeat (first | (with_reducible first | exact HB.out | apply bwA | apply bwN | apply bwD) | exact HB.out)))); have n3_ := Aside0.mk (below_step (by repeat (first | (with_reducible first | exact HB.out | apply bwA | apply bwN | apply bwD) | exact HB.out)) hb); clear HO372; clear HO375; clear HB; have HO372 := n0_; have HO375 := n1_; have HO378 := n2_; have HB := n3_; clear n0_ n1_ n2_ n3_; (try clear hb); (try clear hb2); (try clear hk); (try clear hi); (try clear ho0); obtain ⟨Ao15, co15, eo15⟩ := Kd.R_slice HO375.out; subst eo15; obtain ⟨Ao16, co16, eo16⟩ := Kd.R_slice HO378.out; subst eo16) | (go_at_call 18; (with_reducible refine (laws_wcInts.calls k _ _ t373 _ _ t376 true _ ?side1 ?side2 ?side3 ?side4 A10.out).mono ?_); (case side1 => repeat (first | exact (Kd.R_reads' HO375.out).2.2 | (with_reducible refine Kd.C_alloc ?_ _) | (with_reducible refine Kd.C_drewN ?_ _) | (with_reducible refine Kd.C_drew ?_))); (case side2 => exact (Kd.R_reads' HO375.out).2.1); (case side3 => repeat (first | exact (Kd.R_reads' HO378.out).2.2 | (with_reducible refine Kd.C_alloc ?_ _) | (with_reducible refine Kd.C_drewN ?_ _) | (with_reducible refine Kd.C_drew ?_))); (case side4 => exact (Kd.R_reads' HO378.out).2.1); rintro e w' ⟨rfl, ⟨nd, rfl⟩⟩; (try first | exact ⟨rfl, _, World.drewN_drewN _ _ _⟩ | exact ⟨rfl, _, Eq.trans (World.drewN_drewN _ _ _) (congrArg (World.drewN _) (Nat.add_assoc _ _ _))⟩)) | (go_at_call 29; (with_reducible refine (impl_GuessCount.calls k _ _ t368 t369 t380 _ ?side1 ?side2 A12.out).mono ?_); (case side1 => repeat (first | exact (Kd.R_reads' HO372.out).2.2 | (with_reducible refine Kd.C_alloc ?_ _) | (with_reducible refine Kd.C_drewN ?_ _) | (with_reducible refine Kd.C_drew ?_))); (case side2 => exact (Kd.R_reads' HO372.out).2.1); rintro e w17 ⟨rfl, hb⟩; have n0_ := Aside0.mk (Kd.R_below (by (with_reducible repeat (first | apply Kd.R_alloc | apply Kd.R_drewN | apply Kd.R_drew)); exact HO372.out) hb); have n1_ := Aside0.mk (Kd.R_below (by (with_reducible repeat (first | apply Kd.R_alloc | apply Kd.R_drewN | apply Kd.R_drew)); exact HO375.out) hb); have n2_ := Aside0.mk (Kd.R_below (by (with_reducible repeat (first | apply Kd.R_alloc | apply Kd.R_drewN | apply Kd.R_drew)); exact HO378.out) hb); have n3_ := Aside0.mk (below_step (by repeat (first | (with_reducible first | exact HB.out | apply bwA | apply bwN | apply bwD) | exact HB.out)) hb); clear HO372; clear HO375; clear HO378; clear HB; have HO372 := n0_; have HO375 := n1_; have HO378 := n2_; have HB := n3_; clear n0_ n1_ n2_ n3_; (try clear hb); (try clear hb2); (try clear hk); (try clear hi)) | (go_at_call 30; (with_reducible refine (spec_GuessCount.calls k _ _ t368 t369 t381 _ ?side1 ?side2 A13.out).mono ?_); (case side1 => repeat (first | exact (Kd.R_reads' HO372.out).2.2 | (with_reducible refine Kd.C_alloc ?_ _) | (with_reducible refine Kd.C_drewN ?_ _) | (with_reducible refine Kd.C_drew ?_))); (case side2 => exact (Kd.R_reads' HO372.out).2.1); rintro e w18 ⟨rfl, hb⟩; have n0_ := Aside0.mk (Kd.R_below (by (with_reducible repeat (first | apply Kd.R_alloc | apply Kd.R_drewN | apply Kd.R_drew)); exact HO372.out) hb); have n1_ := Aside0.mk (Kd.R_below (by (with_reducible repeat (first | apply Kd.R_alloc | apply Kd.R_drewN | apply Kd.R_drew)); exact HO375.out) hb); have n2_ := Aside0.mk (Kd.R_below (by (with_reducible repeat (first | apply Kd.R_alloc | apply Kd.R_drewN | apply Kd.R_drew)); exact HO378.out) hb); have n3_ := Aside0.mk (below_step (by repeat (first | (with_reducible first | exact HB.out | apply bwA | apply bwN | apply bwD) | exact HB.out)) hb); clear HO372; clear HO375; clear HO378; clear HB; have HO372 := n0_; have HO375 := n1_; have HO378 := n2_; have HB := n3_; clear n0_ n1_ n2_ n3_; (try clear hb); (try clear hb2); (try clear hk); (try clear hi))); try go_wp2_with (first | (go_at_call 23; (with_reducible refine (spec_GuessTruths.calls k _ _ t368 t369 t370 t376 _ ?side1 ?side2 A9.out).mono ?_); (case side1 => repeat (first | exact (Kd.R_reads' HO372.out).2.2 | (with_reducible refine Kd.C_alloc ?_ _) | (with_reducible refine Kd.C_drewN ?_ _) | (with_reducible refine Kd.C_drew ?_))); (case side2 => exact (Kd.R_reads' HO372.out).2.1); rintro e w14 ⟨v377, rfl, ho0, hb⟩; have n0_ := Aside0.mk (Kd.R_below (by (with_reducible repeat (first | apply Kd.R_alloc | apply Kd.R_drewN | apply Kd.R_drew)); exact HO372.out) hb); have n1_ := Aside0.mk (Kd.R_elder' (by (with_reducible repeat (first | apply Kd.R_alloc | apply Kd.R_drewN | apply Kd.R_drew)); exact HO375.out) (Kd.R_base ho0) hb); have n2_ := Aside0.mk (Kd.R_lower (Kd.R_new' ho0 (Kd.R_lt (by (with_reducible repeat (first | apply Kd.R_alloc | apply Kd.R_drewN | apply Kd.R_drew)); exact HO375.out))) (below_size (by repeat (first | (with_reducible first | exact HB.out | apply bwA | apply bwN | apply bwD) | exact HB.out)))); have n3_ := Aside0.mk (below_step (by repeat (first | (with_reducible first | exact HB.out | apply bwA | apply bwN | apply bwD) | exact HB.out)) hb); clear HO372; clear HO375; clear HB; have HO372 := n0_; have HO375 := n1_; have HO378 := n2_; have HB := n3_; clear n0_ n1_ n2_ n3_; (try clear hb); (try clear hb2); (try clear hk); (try clear hi); (try clear ho0); obtain ⟨Ao15, co15, eo15⟩ := Kd.R_slice HO375.out; subst eo15; obtain ⟨Ao16, co16, eo16⟩ := Kd.R_slice HO378.out; subst eo16) | (go_at_call 18; (with_reducible refine (laws_wcInts.calls k _ _ t373 _ _ t376 true _ ?side1 ?side2 ?side3 ?side4 A10.out).mono ?_); (case side1 => repeat (first | exact (Kd.R_reads' HO375.out).2.2 | (with_reducible refine Kd.C_alloc ?_ _) | (with_reducible refine Kd.C_drewN ?_ _) | (with_reducible refine Kd.C_drew ?_))); (case side2 => exact (Kd.R_reads' HO375.out).2.1); (case side3 => repeat (first | exact (Kd.R_reads' HO378.out).2.2 | (with_reducible refine Kd.C_alloc ?_ _) | (with_reducible refine Kd.C_drewN ?_ _) | (with_reducible refine Kd.C_drew ?_))); (case side4 => exact (Kd.R_reads' HO378.out).2.1); rintro e w' ⟨rfl, ⟨nd, rfl⟩⟩; (try first | exact ⟨rfl, _, World.drewN_drewN _ _ _⟩ | exact ⟨rfl, _, Eq.trans (World.drewN_drewN _ _ _) (congrArg (World.drewN _) (Nat.add_assoc _ _ _))⟩)) | (go_at_call 29; (with_reducible refine (impl_GuessCount.calls k _ _ t368 t369 t380 _ ?side1 ?side2 A12.out).mono ?_); (case side1 => repeat (first | exact (Kd.R_reads' HO372.out).2.2 | (with_reducible refine Kd.C_alloc ?_ _) | (with_reducible refine Kd.C_drewN ?_ _) | (with_reducible refine Kd.C_drew ?_))); (case side2 => exact (Kd.R_reads' HO372.out).2.1); rintro e w17 ⟨rfl, hb⟩; have n0_ := Aside0.mk (Kd.R_below (by (with_reducible repeat (first | apply Kd.R_alloc | apply Kd.R_drewN | apply Kd.R_drew)); exact HO372.out) hb); have n1_ := Aside0.mk (Kd.R_below (by (with_reducible repeat (first | apply Kd.R_alloc | apply Kd.R_drewN | apply Kd.R_drew)); exact HO375.out) hb); have n2_ := Aside0.mk (Kd.R_below (by (with_reducible repeat (first | apply Kd.R_alloc | apply Kd.R_drewN | apply Kd.R_drew)); exact HO378.out) hb); have n3_ := Aside0.mk (below_step (by repeat (first | (with_reducible first | exact HB.out | apply bwA | apply bwN | apply bwD) | exact HB.out)) hb); clear HO372; clear HO375; clear HO378; clear HB; have HO372 := n0_; have HO375 := n1_; have HO378 := n2_; have HB := n3_; clear n0_ n1_ n2_ n3_; (try clear hb); (try clear hb2); (try clear hk); (try clear hi)) | (go_at_call 30; (with_reducible refine (spec_GuessCount.calls k _ _ t368 t369 t381 _ ?side1 ?side2 A13.out).mono ?_); (case side1 => repeat (first | exact (Kd.R_reads' HO372.out).2.2 | (with_reducible refine Kd.C_alloc ?_ _) | (with_reducible refine Kd.C_drewN ?_ _) | (with_reducible refine Kd.C_drew ?_))); (case side2 => exact (Kd.R_reads' HO372.out).2.1); rintro e w18 ⟨rfl, hb⟩; have n0_ := Aside0.mk (Kd.R_below (by (with_reducible repeat (first | apply Kd.R_alloc | apply Kd.R_drewN | apply Kd.R_drew)); exact HO372.out) hb); have n1_ := Aside0.mk (Kd.R_below (by (with_reducible repeat (first | apply Kd.R_alloc | apply Kd.R_drewN | apply Kd.R_drew)); exact HO375.out) hb); have n2_ := Aside0.mk (Kd.R_below (by (with_reducible repeat (first | apply Kd.R_alloc | apply Kd.R_drewN | apply Kd.R_drew)); exact HO378.out) hb); have n3_ := Aside0.mk (below_step (by repeat (first | (with_reducible first | exact HB.out | apply bwA | apply bwN | apply bwD) | exact HB.out)) hb); clear HO372; clear HO375; clear HO378; clear HB; have HO372 := n0_; have HO375 := n1_; have HO378 := n2_; have HB := n3_; clear n0_ n1_ n2_ n3_; (try clear hb); (try clear hb2); (try clear hk); (try clear hi))))
    go_meet
    case rel => exact ⟨_, ((t380 != t381)), (by first | rfl | (simp; done) | (simp [*]; done)), H', ⟨by first | omega | exact Nat.le_refl _⟩, ⟨by (with_reducible repeat (first | apply Kd.R_alloc | apply Kd.R_drewN | apply Kd.R_drew)); exact HO372.out⟩, ⟨by (with_reducible repeat (first | apply Kd.R_alloc | apply Kd.R_drewN | apply Kd.R_drew)); exact Kd.R_mono HO375.out (fun _ hk => trivial)⟩, ⟨by repeat (first | (with_reducible first | exact HB.out | apply bwA | apply bwN | apply bwD) | exact HB.out)⟩⟩
   ·replace c11 := Bool.eq_false_iff.mpr c11
    subst c11
    have H1 : (laws_FnGuessTruths.j0 k t368 t369 t370 t373 true) = some r := by rw [if_neg (show ¬ (false = true) by decide)] at H; exact H
    clear H
    have H := H1
    clear H1
    have H' := Aside0.mk H
    clear H
    go_wp2_with (first | (go_at_call 23; (with_reducible refine (spec_GuessTruths.calls k _ _ t368 t369 t370 t376 _ ?side1 ?side2 A9.out).mono ?_); (case side1 => repeat (first | exact (Kd.R_reads' HO372.out).2.2 | (with_reducible refine Kd.C_alloc ?_ _) | (with_reducible refine Kd.C_drewN ?_ _) | (with_reducible refine Kd.C_drew ?_))); (case side2 => exact (Kd.R_reads' HO372.out).2.1); rintro e w19 ⟨v377, rfl, ho0, hb⟩; have n0_ := Aside0.mk (Kd.R_below (by (with_reducible repeat (first | apply Kd.R_alloc | apply Kd.R_drewN | apply Kd.R_drew)); exact HO372.out) hb); have n1_ := Aside0.mk (Kd.R_elder' (by (with_reducible repeat (first | apply Kd.R_alloc | apply Kd.R_drewN | apply Kd.R_drew)); exact HO375.out) (Kd.R_base ho0) hb); have n2_ := Aside0.mk (Kd.R_lower (Kd.R_new' ho0 (Kd.R_lt (by (with_reducible repeat (first | apply Kd.R_alloc | apply Kd.R_drewN | apply Kd.R_drew)); exact HO375.out))) (below_size (by repeat (first | (with_reducible first | exact HB.out | apply bwA | apply bwN | apply bwD) | exact HB.out)))); have n3_ := Aside0.mk (below_step (by repeat (first | (with_reducible first | exact HB.out | apply bwA | apply bwN | apply bwD) | exact HB.out)) hb); clear HO372; clear HO375; clear HB; have HO372 := n0_; have HO375 := n1_; have HO378 := n2_; have HB := n3_; clear n0_ n1_ n2_ n3_; (try clear hb); (try clear hb2); (try clear hk); (try clear hi); (try clear ho0); obtain ⟨Ao20, co20, eo20⟩ := Kd.R_slice HO375.out; subst eo20; obtain ⟨Ao21, co21, eo21⟩ := Kd.R_slice HO378.out; subst eo21) | (go_at_call 18; (with_reducible refine (laws_wcInts.calls k _ _ t373 _ _ t376 false _ ?side1 ?side2 ?side3 ?side4 A10.out).mono ?_); (case side1 => repeat (first | exact (Kd.R_reads' HO375.out).2.2 | (with_reducible refine Kd.C_alloc ?_ _) | (with_reducible refine Kd.C_drewN ?_ _) | (with_reducible refine Kd.C_drew ?_))); (case side2 => exact (Kd.R_reads' HO375.out).2.1); (case side3 => repeat (first | exact (Kd.R_reads' HO378.out).2.2 | (with_reducible refine Kd.C_alloc ?_ _) | (with_reducible refine Kd.C_drewN ?_ _) | (with_reducible refine Kd.C_drew ?_))); (case side4 => exact (Kd.R_reads' HO378.out).2.1); rintro e w' ⟨rfl, ⟨nd, rfl⟩⟩; (try first | exact ⟨rfl, _, World.drewN_drewN _ _ _⟩ | exact ⟨rfl, _, Eq.trans (World.drewN_drewN _ _ _) (congrArg (World.drewN _) (Nat.add_assoc _ _ _))⟩)))
    repeat (go_quiet (first | (go_at_call 23; (with_reducible refine (spec_GuessTruths.calls k _ _ t368 t369 t370 t376 _ ?side1 ?side2 A9.out).mono ?_); (case side1 => repeat (first | exact (Kd.R_reads' HO372.out).2.2 | (with_reducible refine Kd.C_alloc ?_ _) | (with_reducible refine Kd.C_drewN ?_ _) | (with_reducible refine Kd.C_drew ?_))); (case side2 => exact (Kd.R_reads' HO372.out).2.1); rintro e w19 ⟨v377, rfl, ho0, hb⟩; have n0_ := Aside0.mk (Kd.R_below (by (with_reducible repeat (first | apply Kd.R_alloc | apply Kd.R_drewN | apply Kd.R_drew)); exact HO372.out) hb); have n1_ := Aside0.mk (Kd.R_elder' (by (with_reducible repeat (first | apply Kd.R_alloc | apply Kd.R_drewN | apply Kd.R_drew)); exact HO375.out) (Kd.R_base ho0) hb); have n2_ := Aside0.mk (Kd.R_lower (Kd.R_new' ho0 (Kd.R_lt (by (with_reducible repeat (first | apply Kd.R_alloc | apply Kd.R_drewN | apply Kd.R_drew)); exact HO375.out))) (below_size (by repeat (first | (with_reducible first | exact HB.out | apply bwA | apply bwN | apply bwD) | exact HB.out)))); have n3_ := Aside0.mk (below_step (by repeat (first | (with_reducible first | exact HB.out | apply bwA | apply bwN | apply bwD) | exact HB.out)) hb); clear HO372; clear HO375; clear HB; have HO372 := n0_; have HO375 := n1_; have HO378 := n2_; have HB := n3_; clear n0_ n1_ n2_ n3_; (try clear hb); (try clear hb2); (try clear hk); (try clear hi); (try clear ho0); obtain ⟨Ao20, co20, eo20⟩ := Kd.R_slice HO375.out; subst eo20; obtain ⟨Ao21, co21, eo21⟩ := Kd.R_slice HO378.out; subst eo21) | (go_at_call 18; (with_reducible refine (laws_wcInts.calls k _ _ t373 _ _ t376 false _ ?side1 ?side2 ?side3 ?side4 A10.out).mono ?_); (case side1 => repeat (first | exact (Kd.R_reads' HO375.out).2.2 | (with_reducible refine Kd.C_alloc ?_ _) | (with_reducible refine Kd.C_drewN ?_ _) | (with_reducible refine Kd.C_drew ?_))); (case side2 => exact (Kd.R_reads' HO375.out).2.1); (case side3 => repeat (first | exact (Kd.R_reads' HO378.out).2.2 | (with_reducible refine Kd.C_alloc ?_ _) | (with_reducible refine Kd.C_drewN ?_ _) | (with_reducible refine Kd.C_drew ?_))); (case side4 => exact (Kd.R_reads' HO378.out).2.1); rintro e w' ⟨rfl, ⟨nd, rfl⟩⟩; (try first | exact ⟨rfl, _, World.drewN_drewN _ _ _⟩ | exact ⟨rfl, _, Eq.trans (World.drewN_drewN _ _ _) (congrArg (World.drewN _) (Nat.add_assoc _ _ _))⟩))); try go_wp2_with (first | (go_at_call 23; (with_reducible refine (spec_GuessTruths.calls k _ _ t368 t369 t370 t376 _ ?side1 ?side2 A9.out).mono ?_); (case side1 => repeat (first | exact (Kd.R_reads' HO372.out).2.2 | (with_reducible refine Kd.C_alloc ?_ _) | (with_reducible refine Kd.C_drewN ?_ _) | (with_reducible refine Kd.C_drew ?_))); (case side2 => exact (Kd.R_reads' HO372.out).2.1); rintro e w19 ⟨v377, rfl, ho0, hb⟩; have n0_ := Aside0.mk (Kd.R_below (by (with_reducible repeat (first | apply Kd.R_alloc | apply Kd.R_drewN | apply Kd.R_drew)); exact HO372.out) hb); have n1_ := Aside0.mk (Kd.R_elder' (by (with_reducible repeat (first | apply Kd.R_alloc | apply Kd.R_drewN | apply Kd.R_drew)); exact HO375.out) (Kd.R_base ho0) hb); have n2_ := Aside0.mk (Kd.R_lower (Kd.R_new' ho0 (Kd.R_lt (by (with_reducible repeat (first | apply Kd.R_alloc | apply Kd.R_drewN | apply Kd.R_drew)); exact HO375.out))) (below_size (by repeat (first | (with_reducible first | exact HB.out | apply bwA | apply bwN | apply bwD) | exact HB.out)))); have n3_ := Aside0.mk (below_step (by repeat (first | (with_reducible first | exact HB.out | apply bwA | apply bwN | apply bwD) | exact HB.out)) hb); clear HO372; clear HO375; clear HB; have HO372 := n0_; have HO375 := n1_; have HO378 := n2_; have HB := n3_; clear n0_ n1_ n2_ n3_; (try clear hb); (try clear hb2); (try clear hk); (try clear hi); (try clear ho0); obtain ⟨Ao20, co20, eo20⟩ := Kd.R_slice HO375.out; subst eo20; obtain ⟨Ao21, co21, eo21⟩ := Kd.R_slice HO378.out; subst eo21) | (go_at_call 18; (with_reducible refine (laws_wcInts.calls k _ _ t373 _ _ t376 false _ ?side1 ?side2 ?side3 ?side4 A10.out).mono ?_); (case side1 => repeat (first | exact (Kd.R_reads' HO375.out).2.2 | (with_reducible refine Kd.C_alloc ?_ _) | (with_reducible refine Kd.C_drewN ?_ _) | (with_reducible refine Kd.C_drew ?_))); (case side2 => exact (Kd.R_reads' HO375.out).2.1); (case side3 => repeat (first | exact (Kd.R_reads' HO378.out).2.2 | (with_reducible refine Kd.C_alloc ?_ _) | (with_reducible refine Kd.C_drewN ?_ _) | (with_reducible refine Kd.C_drew ?_))); (case side4 => exact (Kd.R_reads' HO378.out).2.1); rintro e w' ⟨rfl, ⟨nd, rfl⟩⟩; (try first | exact ⟨rfl, _, World.drewN_drewN _ _ _⟩ | exact ⟨rfl, _, Eq.trans (World.drewN_drewN _ _ _) (congrArg (World.drewN _) (Nat.add_assoc _ _ _))⟩))))
    go_meet
    case rel => exact ⟨_, (true), (by first | rfl | (simp; done) | (simp [*]; done)), H', ⟨by first | omega | exact Nat.le_refl _⟩, ⟨by (with_reducible repeat (first | apply Kd.R_alloc | apply Kd.R_drewN | apply Kd.R_drew)); exact HO372.out⟩, ⟨by (with_reducible repeat (first | apply Kd.R_alloc | apply Kd.R_drewN | apply Kd.R_drew)); exact Kd.R_mono HO375.out (fun _ hk => trivial)⟩, ⟨by repeat (first | (with_reducible first | exact HB.out | apply bwA | apply bwN | apply bwD) | exact HB.out)⟩⟩
  case rest =>
   clear HC5
   try clear c1
   try clear c2
   try clear c2b0
   try clear c2b1
   try clear p2
   try clear c6
   try clear c11
   obtain ⟨kq, x39_4, rfl, HA, HJ4, HO_3, HO_6, HB⟩ := hcut
   cases kq with
   | zero => exact absurd HA.out (by simp [laws_FnGuessTruths.j0])
   | succ kj4 =>
    have H := HA.out
    clear HA
    simp only [laws_FnGuessTruths.j0] at H
    by_cases c22 : x39_4 = true
    ·subst c22
     have H1 : (some false) = some r := by rw [if_pos rfl] at H; exact H
     clear H
     have H := H1
     clear H1
     obtain rfl := Option.some.inj H
     go_wp2
     repeat (go_quiet (fail); try go_wp2)
     go_ret
     exact ⟨by first | rfl | (simp [errW_none, errW_some] <;> rfl) | (simp [*, errW_none, errW_some] <;> rfl), by repeat (first | (with_reducible first | exact HB.out | apply bwA | apply bwN | apply bwD) | exact HB.out)⟩
    ·replace c22 := Bool.eq_false_iff.mpr c22
     subst c22
     have H1 : ((impl_GuessLetter.f kj4 t368 t369 t370).bind fun t382 => (laws_FnGuessTruths.l0 kj4 t368 t369 t373 t382 t373 (t373.length : Int) 0)) = some r := by rw [if_neg (show ¬ (false = true) by decide)] at H; exact H
     clear H
     have H := H1
     clear H1
     replace H := Option.bind_eq_some_iff.mp H
     obtain ⟨t382, A230, H⟩ := H
     replace H : (laws_FnGuessTruths.l0 kj4 t368 t369 t373 t382 t373 (t373.length : Int) 0) = some r := H
     have A23 := Aside0.mk A230
     clear A230
     have H' := Aside0.mk H
     clear H
     go_wp2_with (first | (go_at_call 31; (with_reducible refine (impl_GuessLetter.calls kj4 _ _ t368 t369 t370 t382 _ ?side1 ?side2 A23.out).mono ?_); (case side1 => repeat (first | exact (Kd.R_reads' HO_3.out).2.2 | (with_reducible refine Kd.C_alloc ?_ _) | (with_reducible refine Kd.C_drewN ?_ _) | (with_reducible refine Kd.C_drew ?_))); (case side2 => exact (Kd.R_reads' HO_3.out).2.1); rintro e w24 ⟨v383, rfl, ho0, hb⟩; have n0_ := Aside0.mk (Kd.R_below (by (with_reducible repeat (first | apply Kd.R_alloc | apply Kd.R_drewN | apply Kd.R_drew)); exact HO_3.out) hb); have n1_ := Aside0.mk (Kd.R_elder' (by (with_reducible repeat (first | apply Kd.R_alloc | apply Kd.R_drewN | apply Kd.R_drew)); exact HO_6.out) (Kd.R_base ho0) hb); have n2_ := Aside0.mk (Kd.R_lower (Kd.R_new' ho0 (Kd.R_lt (by (with_reducible repeat (first | apply Kd.R_alloc | apply Kd.R_drewN | apply Kd.R_drew)); exact HO_6.out))) (below_size (by repeat (first | (with_reducible first | exact HB.out | apply bwA | apply bwN | apply bwD) | exact HB.out)))); have n3_ := Aside0.mk (below_step (by repeat (first | (with_reducible first | exact HB.out | apply bwA | apply bwN | apply bwD) | exact HB.out)) hb); clear HO_3; clear HO_6; clear HB; have HO_3 := n0_; have HO_6 := n1_; have HO384 := n2_; have HB := n3_; clear n0_ n1_ n2_ n3_; (try clear hb); (try clear hb2); (try clear hk); (try clear hi); (try clear ho0); obtain ⟨Ao25, co25, eo25⟩ := Kd.R_slice HO_6.out; subst eo25))
     repeat (go_quiet (first | (go_at_call 31; (with_reducible refine (impl_GuessLetter.calls kj4 _ _ t368 t369 t370 t382 _ ?side1 ?side2 A23.out).mono ?_); (case side1 => repeat (first | exact (Kd.R_reads' HO_3.out).2.2 | (with_reducible refine Kd.C_alloc ?_ _) | (with_reducible refine Kd.C_drewN ?_ _) | (with_reducible refine Kd.C_drew ?_))); (case side2 => exact (Kd.R_reads' HO_3.out).2.1); rintro e w24 ⟨v383, rfl, ho0, hb⟩; have n0_ := Aside0.mk (Kd.R_below (by (with_reducible repeat (first | apply Kd.R_alloc | apply Kd.R_drewN | apply Kd.R_drew)); exact HO_3.out) hb); have n1_ := Aside0.mk (Kd.R_elder' (by (with_reducible repeat (first | apply Kd.R_alloc | apply Kd.R_drewN | apply Kd.R_drew)); exact HO_6.out) (Kd.R_base ho0) hb); have n2_ := Aside0.mk (Kd.R_lower (Kd.R_new' ho0 (Kd.R_lt (by (with_reducible repeat (first | apply Kd.R_alloc | apply Kd.R_drewN | apply Kd.R_drew)); exact HO_6.out))) (below_size (by repeat (first | (with_reducible first | exact HB.out | apply bwA | apply bwN | apply bwD) | exact HB.out)))); have n3_ := Aside0.mk (below_step (by repeat (first | (with_reducible first | exact HB.out | apply bwA | apply bwN | apply bwD) | exact HB.out)) hb); clear HO_3; clear HO_6; clear HB; have HO_3 := n0_; have HO_6 := n1_; have HO384 := n2_; have HB := n3_; clear n0_ n1_ n2_ n3_; (try clear hb); (try clear hb2); (try clear hk); (try clear hi); (try clear ho0); obtain ⟨Ao25, co25, eo25⟩ := Kd.R_slice HO_6.out; subst eo25)); try go_wp2_with (first | (go_at_call 31; (with_reducible refine (impl_GuessLetter.calls kj4 _ _ t368 t369 t370 t382 _ ?side1 ?side2 A23.out).mono ?_); (case side1 => repeat (first | exact (Kd.R_reads' HO_3.out).2.2 | (with_reducible refine Kd.C_alloc ?_ _) | (with_reducible refine Kd.C_drewN ?_ _) | (with_reducible refine Kd.C_drew ?_))); (case side2 => exact (Kd.R_reads' HO_3.out).2.1); rintro e w24 ⟨v383, rfl, ho0, hb⟩; have n0_ := Aside0.mk (Kd.R_below (by (with_reducible repeat (first | apply Kd.R_alloc | apply Kd.R_drewN | apply Kd.R_drew)); exact HO_3.out) hb); have n1_ := Aside0.mk (Kd.R_elder' (by (with_reducible repeat (first | apply Kd.R_alloc | apply Kd.R_drewN | apply Kd.R_drew)); exact HO_6.out) (Kd.R_base ho0) hb); have n2_ := Aside0.mk (Kd.R_lower (Kd.R_new' ho0 (Kd.R_lt (by (with_reducible repeat (first | apply Kd.R_alloc | apply Kd.R_drewN | apply Kd.R_drew)); exact HO_6.out))) (below_size (by repeat (first | (with_reducible first | exact HB.out | apply bwA | apply bwN | apply bwD) | exact HB.out)))); have n3_ := Aside0.mk (below_step (by repeat (first | (with_reducible first | exact HB.out | apply bwA | apply bwN | apply bwD) | exact HB.out)) hb); clear HO_3; clear HO_6; clear HB; have HO_3 := n0_; have HO_6 := n1_; have HO384 := n2_; have HB := n3_; clear n0_ n1_ n2_ n3_; (try clear hb); (try clear hb2); (try clear hk); (try clear hi); (try clear ho0); obtain ⟨Ao25, co25, eo25⟩ := Kd.R_slice HO_6.out; subst eo25)))
     go_loopg [46] kj4 (fun kq v46 w' => ∃ (x46_2 : Int), v46 = .int .i64 x46_2 ∧ Aside0 (laws_FnGuessTruths.l0 kq t368 t369 t373 t382 t373 (t373.length : Int) x46_2 = some r) ∧ Aside0 (kq ≤ kj4) ∧ Aside0 (Kd.R k37 37 w' w.heap.size (fun _ => True) (.slice Ao7 t368.length co7) t368) ∧ Aside0 (Kd.R (Kd.int .i64) 3 w' w.heap.size (fun k_ => some k_ ≠ (v383 : Value).ownBlock) (.slice Ao25 t373.length co25) t373) ∧ Aside0 (Kd.R (Kd.int .i64) 3 w' w.heap.size (fun k_ => some k_ ≠ ((.slice Ao25 t373.length co25) : Value).ownBlock ∧ some k_ ≠ ((.slice Ao25 t373.length co25) : Value).ownBlock) v383 t382) ∧ Aside0 (Kd.R (Kd.int .i64) 3 w' w.heap.size (fun k_ => some k_ ≠ (v383 : Value).ownBlock) (.slice Ao25 t373.length co25) t373) ∧ Aside0 (Below w.heap.size w w'))
     case atStart => exact ⟨(0), (by first | rfl | (simp; done) | (simp [*]; done)), H', ⟨Nat.le_refl _⟩, ⟨by (with_reducible repeat (first | apply Kd.R_alloc | apply Kd.R_drewN | apply Kd.R_drew)); exact HO_3.out⟩, ⟨by (with_reducible repeat (first | apply Kd.R_alloc | apply Kd.R_drewN | apply Kd.R_drew)); exact Kd.R_mono HO_6.out (fun _ hk => hk.2)⟩, ⟨by (with_reducible repeat (first | apply Kd.R_alloc | apply Kd.R_drewN | apply Kd.R_drew)); exact Kd.R_mono HO384.out (fun _ hk => ⟨hk.2, hk.2⟩)⟩, ⟨by (with_reducible repeat (first | apply Kd.R_alloc | apply Kd.R_drewN | apply Kd.R_drew)); exact Kd.R_mono HO_6.out (fun _ hk => hk.2)⟩, ⟨by repeat (first | (with_reducible first | exact HB.out | apply bwA | apply bwN | apply bwD) | exact HB.out)⟩⟩
     case round =>
      clear H'
      try clear c1
      try clear c2
      try clear c2b0
      try clear c2b1
      try clear p2
      try clear c6
      try clear c11
      try clear c22
      try clear p2
      obtain ⟨x46_2, rfl, HA, HK2, HO_3, HO_6, HO_7, HO_44, HB⟩ := hrel
      cases gk with
      | zero => exact absurd HA.out (by simp [laws_FnGuessTruths.l0])
      | succ k2 =>
       have H := HA.out
       clear HA
       simp only [laws_FnGuessTruths.l0] at H
       by_cases c26 : x46_2 < (t373.length : Int)
       ·rw [if_pos c26] at H
        have c26b0 : decide (x46_2 < (t373.length : Int)) = true := decide_eq_true c26
        clear c26
        by_cases c27 : 0 ≤ x46_2
        ·rw [if_pos c27] at H
         have c27b0 : decide (0 ≤ x46_2) = true := decide_eq_true c27
         clear c27
         by_cases c28 : x46_2 < (t373.length : Int)
         ·rw [if_pos c28] at H
          have c28b0 : decide (x46_2 < (t373.length : Int)) = true := decide_eq_true c28
          clear c28
          by_cases c29 : x46_2 < (t368.length : Int)
          ·rw [if_pos c29] at H
           have c29b0 : decide (x46_2 < (t368.length : Int)) = true := decide_eq_true c29
           clear c29
           have HC30 := Aside0.mk H
           clear H
           have p385 : 0 ≤ (x46_2 : Int) := of_decide_eq_true (by first | (with_reducible assumption) | assumption)
           have q385 : x46_2 < (t373.length : Int) := of_decide_eq_true (by first | (with_reducible assumption) | assumption)
           obtain ⟨ad385, e385, hx385_0⟩ := Kd.at_int (Kd.R_reads' HO_44.out).2.2 x46_2 p385 q385
           cases e385
           replace p385 := eq_true p385
           replace q385 := eq_true q385
           have p386 : 0 ≤ (x46_2 : Int) := of_decide_eq_true (by first | (with_reducible assumption) | assumption)
           have q386 : x46_2 < (t368.length : Int) := of_decide_eq_true (by first | (with_reducible assumption) | assumption)
           obtain ⟨ad386, e386, hx386_0, hx386_1, hx386_2, hx386_3⟩ := at_T37 (Kd.R_reads' HO_3.out).2.2 x46_2 p386 q386
           cases e386
           replace p386 := eq_true p386
           replace q386 := eq_true q386
           go_upto_region 12 with (first | ((with_reducible refine gate_dst (N := 10) rfl ?_); refine box_event ?hg (N := 10) ?hd (cs := #[.int .i64 0, .int .i64 0, .int .i64 0, .int .i64 0]) (t := 37) ?hr ?_; (case hd => rfl); (case hg => rfl); (case hr => first | (go_simp; done) | (go_simp; rfl)); intro gb387 hg w31 hbox hb; have n0_ := Aside0.mk (Kd.R_below (Kd.R_elderB (by (with_reducible repeat (first | apply Kd.R_alloc | apply Kd.R_drewN | apply Kd.R_drew)); exact HO_3.out) gb387 (Nat.le_of_eq hg.symm)) hb); have n1_ := Aside0.mk (Kd.R_below (by (with_reducible repeat (first | apply Kd.R_alloc | apply Kd.R_drewN | apply Kd.R_drew)); exact HO_6.out) hb); have n2_ := Aside0.mk (Kd.R_below (by (with_reducible repeat (first | apply Kd.R_alloc | apply Kd.R_drewN | apply Kd.R_drew)); exact HO_7.out) hb); have n3_ := Aside0.mk (Kd.R_below (by (with_reducible repeat (first | apply Kd.R_alloc | apply Kd.R_drewN | apply Kd.R_drew)); exact HO_44.out) hb); have n4_ := Aside0.mk (below_step (by repeat (first | (with_reducible first | exact HB.out | apply bwA | apply bwN | apply bwD) | exact HB.out)) hb); have n5_ := Aside0.mk (hbox); have n6_ := Aside0.mk ((by rw [hg]; exact (below_size (by repeat (first | (with_reducible first | exact HB.out | apply bwA | apply bwN | apply bwD) | exact HB.out))) : w.heap.size ≤ gb387)); have n7_ := Aside0.mk ((by rw [hg]; exact (below_size (by repeat (first | (with_reducible first | exact HB.out | apply bwA | apply bwN | apply bwD) | exact HB.out))) : w.heap.size ≤ gb387)); clear HO_3; clear HO_6; clear HO_7; clear HO_44; clear HB; have HO_3 := n0_; have HO_6 := n1_; have HO_7 := n2_; have HO_44 := n3_; have HB := n4_; have BK387 := n5_; have GW387 := n6_; have GE387 := n7_; clear n0_ n1_ n2_ n3_ n4_ n5_ n6_ n7_; clear hb hbox hg; have hcz32_0 : w31.cell? ⟨gb387, 0, none⟩ = some (.int .i64 0) := (blk_cell BK387.out 0).trans rfl; have hcz32_1 : w31.cell? ⟨gb387, 1, none⟩ = some (.int .i64 0) := (blk_cell BK387.out 1).trans rfl; have hcz32_2 : w31.cell? ⟨gb387, 2, none⟩ = some (.int .i64 0) := (blk_cell BK387.out 2).trans rfl; have hcz32_3 : w31.cell? ⟨gb387, 3, none⟩ = some (.int .i64 0) := (blk_cell BK387.out 3).trans rfl; have hfz32_0 := blk_frozen BK387.out 0; have hfz32_1 := blk_frozen BK387.out 1; have hfz32_2 := blk_frozen BK387.out 2; have hfz32_3 := blk_frozen BK387.out 3))
           repeat (go_quiet (first | ((with_reducible refine gate_dst (N := 10) rfl ?_); refine box_event ?hg (N := 10) ?hd (cs := #[.int .i64 0, .int .i64 0, .int .i64 0, .int .i64 0]) (t := 37) ?hr ?_; (case hd => rfl); (case hg => rfl); (case hr => first | (go_simp; done) | (go_simp; rfl)); intro gb387 hg w31 hbox hb; have n0_ := Aside0.mk (Kd.R_below (Kd.R_elderB (by (with_reducible repeat (first | apply Kd.R_alloc | apply Kd.R_drewN | apply Kd.R_drew)); exact HO_3.out) gb387 (Nat.le_of_eq hg.symm)) hb); have n1_ := Aside0.mk (Kd.R_below (by (with_reducible repeat (first | apply Kd.R_alloc | apply Kd.R_drewN | apply Kd.R_drew)); exact HO_6.out) hb); have n2_ := Aside0.mk (Kd.R_below (by (with_reducible repeat (first | apply Kd.R_alloc | apply Kd.R_drewN | apply Kd.R_drew)); exact HO_7.out) hb); have n3_ := Aside0.mk (Kd.R_below (by (with_reducible repeat (first | apply Kd.R_alloc | apply Kd.R_drewN | apply Kd.R_drew)); exact HO_44.out) hb); have n4_ := Aside0.mk (below_step (by repeat (first | (with_reducible first | exact HB.out | apply bwA | apply bwN | apply bwD) | exact HB.out)) hb); have n5_ := Aside0.mk (hbox); have n6_ := Aside0.mk ((by rw [hg]; exact (below_size (by repeat (first | (with_reducible first | exact HB.out | apply bwA | apply bwN | apply bwD) | exact HB.out))) : w.heap.size ≤ gb387)); have n7_ := Aside0.mk ((by rw [hg]; exact (below_size (by repeat (first | (with_reducible first | exact HB.out | apply bwA | apply bwN | apply bwD) | exact HB.out))) : w.heap.size ≤ gb387)); clear HO_3; clear HO_6; clear HO_7; clear HO_44; clear HB; have HO_3 := n0_; have HO_6 := n1_; have HO_7 := n2_; have HO_44 := n3_; have HB := n4_; have BK387 := n5_; have GW387 := n6_; have GE387 := n7_; clear n0_ n1_ n2_ n3_ n4_ n5_ n6_ n7_; clear hb hbox hg; have hcz32_0 : w31.cell? ⟨gb387, 0, none⟩ = some (.int .i64 0) := (blk_cell BK387.out 0).trans rfl; have hcz32_1 : w31.cell? ⟨gb387, 1, none⟩ = some (.int .i64 0) := (blk_cell BK387.out 1).trans rfl; have hcz32_2 : w31.cell? ⟨gb387, 2, none⟩ = some (.int .i64 0) := (blk_cell BK387.out 2).trans rfl; have hcz32_3 : w31.cell? ⟨gb387, 3, none⟩ = some (.int .i64 0) := (blk_cell BK387.out 3).trans rfl; have hfz32_0 := blk_frozen BK387.out 0; have hfz32_1 := blk_frozen BK387.out 1; have hfz32_2 := blk_frozen BK387.out 2; have hfz32_3 := blk_frozen BK387.out 3)); go_upto_region 12 with (first | ((with_reducible refine gate_dst (N := 10) rfl ?_); refine box_event ?hg (N := 10) ?hd (cs := #[.int .i64 0, .int .i64 0, .int .i64 0, .int .i64 0]) (t := 37) ?hr ?_; (case hd => rfl); (case hg => rfl); (case hr => first | (go_simp; done) | (go_simp; rfl)); intro gb387 hg w31 hbox hb; have n0_ := Aside0.mk (Kd.R_below (Kd.R_elderB (by (with_reducible repeat (first | apply Kd.R_alloc | apply Kd.R_drewN | apply Kd.R_drew)); exact HO_3.out) gb387 (Nat.le_of_eq hg.symm)) hb); have n1_ := Aside0.mk (Kd.R_below (by (with_reducible repeat (first | apply Kd.R_alloc | apply Kd.R_drewN | apply Kd.R_drew)); exact HO_6.out) hb); have n2_ := Aside0.mk (Kd.R_below (by (with_reducible repeat (first | apply Kd.R_alloc | apply Kd.R_drewN | apply Kd.R_drew)); exact HO_7.out) hb); have n3_ := Aside0.mk (Kd.R_below (by (with_reducible repeat (first | apply Kd.R_alloc | apply Kd.R_drewN | apply Kd.R_drew)); exact HO_44.out) hb); have n4_ := Aside0.mk (below_step (by repeat (first | (with_reducible first | exact HB.out | apply bwA | apply bwN | apply bwD) | exact HB.out)) hb); have n5_ := Aside0.mk (hbox); have n6_ := Aside0.mk ((by rw [hg]; exact (below_size (by repeat (first | (with_reducible first | exact HB.out | apply bwA | apply bwN | apply bwD) | exact HB.out))) : w.heap.size ≤ gb387)); have n7_ := Aside0.mk ((by rw [hg]; exact (below_size (by repeat (first | (with_reducible first | exact HB.out | apply bwA | apply bwN | apply bwD) | exact HB.out))) : w.heap.size ≤ gb387)); clear HO_3; clear HO_6; clear HO_7; clear HO_44; clear HB; have HO_3 := n0_; have HO_6 := n1_; have HO_7 := n2_; have HO_44 := n3_; have HB := n4_; have BK387 := n5_; have GW387 := n6_; have GE387 := n7_; clear n0_ n1_ n2_ n3_ n4_ n5_ n6_ n7_; clear hb hbox hg; have hcz32_0 : w31.cell? ⟨gb387, 0, none⟩ = some (.int .i64 0) := (blk_cell BK387.out 0).trans rfl; have hcz32_1 : w31.cell? ⟨gb387, 1, none⟩ = some (.int .i64 0) := (blk_cell BK387.out 1).trans rfl; have hcz32_2 : w31.cell? ⟨gb387, 2, none⟩ = some (.int .i64 0) := (blk_cell BK387.out 2).trans rfl; have hcz32_3 : w31.cell? ⟨gb387, 3, none⟩ = some (.int .i64 0) := (blk_cell BK387.out 3).trans rfl; have hfz32_0 := blk_frozen BK387.out 0; have hfz32_1 := blk_frozen BK387.out 1; have hfz32_2 := blk_frozen BK387.out 2; have hfz32_3 := blk_frozen BK387.out 3)))
           (try simp only [Act.put, List.setIfInBounds_toArray, List.set_cons_zero, List.set_cons_succ])
           go_cut [55] (fun v55 wc => ∃ (kq : Nat) (x55_29 : Bool), v55 = .bool x55_29 ∧ Aside0 (laws_FnGuessTruths.j2 kq t368 t369 t373 t382 (rd t373 x46_2) t373 (t373.length : Int) x46_2 x55_29 ((rd_T37 t368 x46_2).f0) ((rd_T37 t368 x46_2).f1) ((rd_T37 t368 x46_2).f2) ((rd_T37 t368 x46_2).f3) = some r) ∧ Aside0 (kq ≤ k2) ∧ Aside0 (Kd.R k37 37 wc w.heap.size (fun k_ => k_ ≠ gb387) (.slice (some ad386) t368.length co7) t368) ∧ Aside0 (Kd.R (Kd.int .i64) 3 wc w.heap.size (fun k_ => some k_ ≠ (v383 : Value).ownBlock) (.slice (some ad385) t373.length co25) t373) ∧ Aside0 (Kd.R (Kd.int .i64) 3 wc w.heap.size (fun k_ => some k_ ≠ ((.slice (some ad385) t373.length co25) : Value).ownBlock ∧ some k_ ≠ ((.slice (some ad385) t373.length co25) : Value).ownBlock) v383 t382) ∧ Aside0 (Kd.R (Kd.int .i64) 3 wc w.heap.size (fun k_ => some k_ ≠ (v383 : Value).ownBlock) (.slice (some ad385) t373.length co25) t373) ∧ Aside0 (wc.heap[gb387]? = some (.cells #[.int .i64 ((rd_T37 t368 x46_2).f0), .int .i64 ((rd_T37 t368 x46_2).f1), .int .i64 ((rd_T37 t368 x46_2).f2), .int .i64 ((rd_T37 t368 x46_2).f3)] 37 (0, 0))) ∧ Aside0 (Below w.heap.size w wc))
           case first =>
            have H := HC30.out
            clear HC30
            by_cases c33 : ((rd_T37 t368 x46_2).f0) = 0
            ·rw [if_pos c33] at H
             have c33b0 : (((rd_T37 t368 x46_2).f0) == 0) = true := beq_iff_eq.mpr c33
             have c33b1 : (((rd_T37 t368 x46_2).f0) != 0) = false := bne_eq_false_iff_eq.mpr c33
             clear c33
             (first | rw [c33b0] | (simp only [i64_w, i32_w]; rw [c33b0]) | skip)
             have H' := Aside0.mk H
             clear H
             have hcz34_0 : w31.cell? ⟨gb387, 0, none⟩ = some (.int .i64 0) := (blk_cell BK387.out 0).trans rfl
             have hcz34_1 : w31.cell? ⟨gb387, 1, none⟩ = some (.int .i64 0) := (blk_cell BK387.out 1).trans rfl
             have hcz34_2 : w31.cell? ⟨gb387, 2, none⟩ = some (.int .i64 0) := (blk_cell BK387.out 2).trans rfl
             have hcz34_3 : w31.cell? ⟨gb387, 3, none⟩ = some (.int .i64 0) := (blk_cell BK387.out 3).trans rfl
             have hfz34_0 := blk_frozen BK387.out 0
             have hfz34_1 := blk_frozen BK387.out 1
             have hfz34_2 := blk_frozen BK387.out 2
             have hfz34_3 := blk_frozen BK387.out 3
             go_wp2
             repeat (go_quiet (fail); try go_wp2)
             go_meet
             case rel => exact ⟨_, (((rd t373 x46_2) != 1)), (by first | rfl | (simp; done) | (simp [*]; done)), H', ⟨by have := HJ4.out; have := HK2.out; first | omega | exact Nat.le_refl _⟩, ⟨by (with_reducible repeat (first | apply Kd.R_alloc | apply Kd.R_drewN | apply Kd.R_drew)); exact Kd.R_mono (Kd.R_far (p := ⟨gb387, 3, none⟩) (Kd.R_far (p := ⟨gb387, 2, none⟩) (Kd.R_far (p := ⟨gb387, 1, none⟩) (Kd.R_far (p := ⟨gb387, 0, none⟩) (Kd.R_mono HO_3.out (fun k_ hk => (⟨hk, hk.2⟩ : _ ∧ k_ ≠ gb387))) (fun _ hk => hk.2) (.int .i64 ((rd_T37 t368 x46_2).f0))) (fun _ hk => hk.2) (.int .i64 ((rd_T37 t368 x46_2).f1))) (fun _ hk => hk.2) (.int .i64 ((rd_T37 t368 x46_2).f2))) (fun _ hk => hk.2) (.int .i64 ((rd_T37 t368 x46_2).f3))) (fun _ hk => hk.1.2)⟩, ⟨by (with_reducible repeat (first | apply Kd.R_alloc | apply Kd.R_drewN | apply Kd.R_drew)); exact Kd.R_mono (Kd.R_far (p := ⟨gb387, 3, none⟩) (Kd.R_far (p := ⟨gb387, 2, none⟩) (Kd.R_far (p := ⟨gb387, 1, none⟩) (Kd.R_far (p := ⟨gb387, 0, none⟩) (Kd.R_types HO_6.out BK387.out (by decide)) (fun _ hk => hk.2) (.int .i64 ((rd_T37 t368 x46_2).f0))) (fun _ hk => hk.2) (.int .i64 ((rd_T37 t368 x46_2).f1))) (fun _ hk => hk.2) (.int .i64 ((rd_T37 t368 x46_2).f2))) (fun _ hk => hk.2) (.int .i64 ((rd_T37 t368 x46_2).f3))) (fun _ hk => hk.1)⟩, ⟨by (with_reducible repeat (first | apply Kd.R_alloc | apply Kd.R_drewN | apply Kd.R_drew)); exact Kd.R_mono (Kd.R_far (p := ⟨gb387, 3, none⟩) (Kd.R_far (p := ⟨gb387, 2, none⟩) (Kd.R_far (p := ⟨gb387, 1, none⟩) (Kd.R_far (p := ⟨gb387, 0, none⟩) (Kd.R_types HO_7.out BK387.out (by decide)) (fun _ hk => hk.2) (.int .i64 ((rd_T37 t368 x46_2).f0))) (fun _ hk => hk.2) (.int .i64 ((rd_T37 t368 x46_2).f1))) (fun _ hk => hk.2) (.int .i64 ((rd_T37 t368 x46_2).f2))) (fun _ hk => hk.2) (.int .i64 ((rd_T37 t368 x46_2).f3))) (fun _ hk => ⟨hk.1.1, hk.1.2⟩)⟩, ⟨by (with_reducible repeat (first | apply Kd.R_alloc | apply Kd.R_drewN | apply Kd.R_drew)); exact Kd.R_mono (Kd.R_far (p := ⟨gb387, 3, none⟩) (Kd.R_far (p := ⟨gb387, 2, none⟩) (Kd.R_far (p := ⟨gb387, 1, none⟩) (Kd.R_far (p := ⟨gb387, 0, none⟩) (Kd.R_types HO_44.out BK387.out (by decide)) (fun _ hk => hk.2) (.int .i64 ((rd_T37 t368 x46_2).f0))) (fun _ hk => hk.2) (.int .i64 ((rd_T37 t368 x46_2).f1))) (fun _ hk => hk.2) (.int .i64 ((rd_T37 t368 x46_2).f2))) (fun _ hk => hk.2) (.int .i64 ((rd_T37 t368 x46_2).f3))) (fun _ hk => hk.1)⟩, ⟨by (with_reducible repeat (first | refine blk_drewN ?_ _ | refine blk_drew ?_ | refine blk_alloc ?_ _)); refine blk_put (cs := #[.int .i64 ((rd_T37 t368 x46_2).f0), .int .i64 ((rd_T37 t368 x46_2).f1), .int .i64 ((rd_T37 t368 x46_2).f2), .int .i64 0]) ?_ 3 _ rfl; (with_reducible repeat (first | refine blk_drewN ?_ _ | refine blk_drew ?_ | refine blk_alloc ?_ _)); refine blk_put (cs := #[.int .i64 ((rd_T37 t368 x46_2).f0), .int .i64 ((rd_T37 t368 x46_2).f1), .int .i64 0, .int .i64 0]) ?_ 2 _ rfl; (with_reducible repeat (first | refine blk_drewN ?_ _ | refine blk_drew ?_ | refine blk_alloc ?_ _)); refine blk_put (cs := #[.int .i64 ((rd_T37 t368 x46_2).f0), .int .i64 0, .int .i64 0, .int .i64 0]) ?_ 1 _ rfl; (with_reducible repeat (first | refine blk_drewN ?_ _ | refine blk_drew ?_ | refine blk_alloc ?_ _)); refine blk_put (cs := #[.int .i64 0, .int .i64 0, .int .i64 0, .int .i64 0]) ?_ 0 _ rfl; (with_reducible repeat (first | refine blk_drewN ?_ _ | refine blk_drew ?_ | refine blk_alloc ?_ _)); exact BK387.out⟩, ⟨by repeat (first | (with_reducible first | exact HB.out | apply bwA | apply bwN | apply bwD | refine below_set ?_ GE387.out) | exact HB.out)⟩⟩
            ·rw [if_neg c33] at H
             have c33b0 : (((rd_T37 t368 x46_2).f0) == 0) = false := beq_eq_false_iff_ne.mpr c33
             have c33b1 : (((rd_T37 t368 x46_2).f0) != 0) = true := bne_iff_ne.mpr c33
             (first | rw [c33b0] | (simp only [i64_w, i32_w]; rw [c33b0]) | skip)
             have H' := Aside0.mk H
             clear H
             have hcz35_0 : w31.cell? ⟨gb387, 0, none⟩ = some (.int .i64 0) := (blk_cell BK387.out 0).trans rfl
             have hcz35_1 : w31.cell? ⟨gb387, 1, none⟩ = some (.int .i64 0) := (blk_cell BK387.out 1).trans rfl
             have hcz35_2 : w31.cell? ⟨gb387, 2, none⟩ = some (.int .i64 0) := (blk_cell BK387.out 2).trans rfl
             have hcz35_3 : w31.cell? ⟨gb387, 3, none⟩ = some (.int .i64 0) := (blk_cell BK387.out 3).trans rfl
             have hfz35_0 := blk_frozen BK387.out 0
             have hfz35_1 := blk_frozen BK387.out 1
             have hfz35_2 := blk_frozen BK387.out 2
             have hfz35_3 := blk_frozen BK387.out 3
             go_wp2
             repeat (go_quiet (fail); try go_wp2)
             go_meet
             case rel => exact ⟨_, (false), (by first | rfl | (simp; done) | (simp [*]; done)), H', ⟨by have := HJ4.out; have := HK2.out; first | omega | exact Nat.le_refl _⟩, ⟨by (with_reducible repeat (first | apply Kd.R_alloc | apply Kd.R_drewN | apply Kd.R_drew)); exact Kd.R_mono (Kd.R_far (p := ⟨gb387, 3, none⟩) (Kd.R_far (p := ⟨gb387, 2, none⟩) (Kd.R_far (p := ⟨gb387, 1, none⟩) (Kd.R_far (p := ⟨gb387, 0, none⟩) (Kd.R_mono HO_3.out (fun k_ hk => (⟨hk, hk.2⟩ : _ ∧ k_ ≠ gb387))) (fun _ hk => hk.2) (.int .i64 ((rd_T37 t368 x46_2).f0))) (fun _ hk => hk.2) (.int .i64 ((rd_T37 t368 x46_2).f1))) (fun _ hk => hk.2) (.int .i64 ((rd_T37 t368 x46_2).f2))) (fun _ hk => hk.2) (.int .i64 ((rd_T37 t368 x46_2).f3))) (fun _ hk => hk.1.2)⟩, ⟨by (with_reducible repeat (first | apply Kd.R_alloc | apply Kd.R_drewN | apply Kd.R_drew)); exact Kd.R_mono (Kd.R_far (p := ⟨gb387, 3, none⟩) (Kd.R_far (p := ⟨gb387, 2, none⟩) (Kd.R_far (p := ⟨gb387, 1, none⟩) (Kd.R_far (p := ⟨gb387, 0, none⟩) (Kd.R_types HO_6.out BK387.out (by decide)) (fun _ hk => hk.2) (.int .i64 ((rd_T37 t368 x46_2).f0))) (fun _ hk => hk.2) (.int .i64 ((rd_T37 t368 x46_2).f1))) (fun _ hk => hk.2) (.int .i64 ((rd_T37 t368 x46_2).f2))) (fun _ hk => hk.2) (.int .i64 ((rd_T37 t368 x46_2).f3))) (fun _ hk => hk.1)⟩, ⟨by (with_reducible repeat (first | apply Kd.R_alloc | apply Kd.R_drewN | apply Kd.R_drew)); exact Kd.R_mono (Kd.R_far (p := ⟨gb387, 3, none⟩) (Kd.R_far (p := ⟨gb387, 2, none⟩) (Kd.R_far (p := ⟨gb387, 1, none⟩) (Kd.R_far (p := ⟨gb387, 0, none⟩) (Kd.R_types HO_7.out BK387.out (by decide)) (fun _ hk => hk.2) (.int .i64 ((rd_T37 t368 x46_2).f0))) (fun _ hk => hk.2) (.int .i64 ((rd_T37 t368 x46_2).f1))) (fun _ hk => hk.2) (.int .i64 ((rd_T37 t368 x46_2).f2))) (fun _ hk => hk.2) (.int .i64 ((rd_T37 t368 x46_2).f3))) (fun _ hk => ⟨hk.1.1, hk.1.2⟩)⟩, ⟨by (with_reducible repeat (first | apply Kd.R_alloc | apply Kd.R_drewN | apply Kd.R_drew)); exact Kd.R_mono (Kd.R_far (p := ⟨gb387, 3, none⟩) (Kd.R_far (p := ⟨gb387, 2, none⟩) (Kd.R_far (p := ⟨gb387, 1, none⟩) (Kd.R_far (p := ⟨gb387, 0, none⟩) (Kd.R_types HO_44.out BK387.out (by decide)) (fun _ hk => hk.2) (.int .i64 ((rd_T37 t368 x46_2).f0))) (fun _ hk => hk.2) (.int .i64 ((rd_T37 t368 x46_2).f1))) (fun _ hk => hk.2) (.int .i64 ((rd_T37 t368 x46_2).f2))) (fun _ hk => hk.2) (.int .i64 ((rd_T37 t368 x46_2).f3))) (fun _ hk => hk.1)⟩, ⟨by (with_reducible repeat (first | refine blk_drewN ?_ _ | refine blk_drew ?_ | refine blk_alloc ?_ _)); refine blk_put (cs := #[.int .i64 ((rd_T37 t368 x46_2).f0), .int .i64 ((rd_T37 t368 x46_2).f1), .int .i64 ((rd_T37 t368 x46_2).f2), .int .i64 0]) ?_ 3 _ rfl; (with_reducible repeat (first | refine blk_drewN ?_ _ | refine blk_drew ?_ | refine blk_alloc ?_ _)); refine blk_put (cs := #[.int .i64 ((rd_T37 t368 x46_2).f0), .int .i64 ((rd_T37 t368 x46_2).f1), .int .i64 0, .int .i64 0]) ?_ 2 _ rfl; (with_reducible repeat (first | refine blk_drewN ?_ _ | refine blk_drew ?_ | refine blk_alloc ?_ _)); refine blk_put (cs := #[.int .i64 ((rd_T37 t368 x46_2).f0), .int .i64 0, .int .i64 0, .int .i64 0]) ?_ 1 _ rfl; (with_reducible repeat (first | refine blk_drewN ?_ _ | refine blk_drew ?_ | refine blk_alloc ?_ _)); refine blk_put (cs := #[.int .i64 0, .int .i64 0, .int .i64 0, .int .i64 0]) ?_ 0 _ rfl; (with_reducible repeat (first | refine blk_drewN ?_ _ | refine blk_drew ?_ | refine blk_alloc ?_ _)); exact BK387.out⟩, ⟨by repeat (first | (with_reducible first | exact HB.out | apply bwA | apply bwN | apply bwD | refine below_set ?_ GE387.out) | exact HB.out)⟩⟩
           case rest =>
            clear HC30
            try clear c1
            try clear c2
            try clear c2b0
            try clear c2b1
            try clear p2
            try clear c3
            try clear p3
            try clear q3
            try clear hx3
            try clear c6
            try clear c11
            try clear c22
            try clear c26
            try clear c26b0
            try clear c27
            try clear c27b0
            try clear c28
            try clear c28b0
            try clear c29
            try clear c29b0
            try clear c33
            try clear c33b0
            try clear c33b1
            try clear hcz32_0
            try clear hcz32_1
            try clear hcz32_2
            try clear hcz32_3
            try clear hcz34_0
            try clear hcz34_1
            try clear hcz34_2
            try clear hcz34_3
            try clear hcz35_0
            try clear hcz35_1
            try clear hcz35_2
            try clear hcz35_3
            try clear hfz32_0
            try clear hfz32_1
            try clear hfz32_2
            try clear hfz32_3
            try clear hfz34_0
            try clear hfz34_1
            try clear hfz34_2
            try clear hfz34_3
            try clear hfz35_0
            try clear hfz35_1
            try clear hfz35_2
            try clear hfz35_3
            try clear hx385_0
            try clear hx386_0
            try clear hx386_1
            try clear hx386_2
            try clear hx386_3
            try clear p2
            try clear p385
            try clear p386
            try clear q385
            try clear q386
            obtain ⟨kq, x55_29, rfl, HA, HJ29, HO_3, HO_6, HO_7, HO_44, BK387, HB⟩ := hcut
            cases kq with
            | zero => exact absurd HA.out (by simp [laws_FnGuessTruths.j2])
            | succ kj29 =>
             have H := HA.out
             clear HA
             simp only [laws_FnGuessTruths.j2] at H
             have HC36 := Aside0.mk H
             clear H
             go_upto_if 55 with (fail)
             repeat (go_quiet (fail); go_upto_if 55 with (fail))
             go_cut [55] (fun v55 wc => ∃ (kq : Nat) (x55_35 : Bool), v55 = .bool x55_35 ∧ Aside0 (laws_FnGuessTruths.j3 kq t368 t369 t373 t382 (rd t373 x46_2) t373 (t373.length : Int) x46_2 x55_35 ((rd_T37 t368 x46_2).f0) ((rd_T37 t368 x46_2).f1) ((rd_T37 t368 x46_2).f2) ((rd_T37 t368 x46_2).f3) = some r) ∧ Aside0 (kq ≤ kj29) ∧ Aside0 (Kd.R k37 37 wc w.heap.size (fun k_ => k_ ≠ gb387) (.slice (some ad386) t368.length co7) t368) ∧ Aside0 (Kd.R (Kd.int .i64) 3 wc w.heap.size (fun k_ => some k_ ≠ (v383 : Value).ownBlock) (.slice (some ad385) t373.length co25) t373) ∧ Aside0 (Kd.R (Kd.int .i64) 3 wc w.heap.size (fun k_ => some k_ ≠ ((.slice (some ad385) t373.length co25) : Value).ownBlock ∧ some k_ ≠ ((.slice (some ad385) t373.length co25) : Value).ownBlock) v383 t382) ∧ Aside0 (Kd.R (Kd.int .i64) 3 wc w.heap.size (fun k_ => some k_ ≠ (v383 : Value).ownBlock) (.slice (some ad385) t373.length co25) t373) ∧ Aside0 (wc.heap[gb387]? = some (.cells #[.int .i64 ((rd_T37 t368 x46_2).f0), .int .i64 ((rd_T37 t368 x46_2).f1), .int .i64 ((rd_T37 t368 x46_2).f2), .int .i64 ((rd_T37 t368 x46_2).f3)] 37 (0, 0))) ∧ Aside0 (Below w.heap.size w wc))
             case first =>
              have H := HC36.out
              clear HC36
              by_cases c37 : x55_29 = true
              ·subst c37
               have H1 : (laws_FnGuessTruths.j3 kj29 t368 t369 t373 t382 (rd t373 x46_2) t373 (t373.length : Int) x46_2 true ((rd_T37 t368 x46_2).f0) ((rd_T37 t368 x46_2).f1) ((rd_T37 t368 x46_2).f2) ((rd_T37 t368 x46_2).f3)) = some r := by rw [if_pos rfl] at H; exact H
               clear H
               have H := H1
               clear H1
               have H' := Aside0.mk H
               clear H
               go_wp2
               repeat (go_quiet (fail); try go_wp2)
               go_meet
               case rel => exact ⟨_, (true), (by first | rfl | (simp; done) | (simp [*]; done)), H', ⟨by have := HJ4.out; have := HK2.out; have := HJ29.out; first | omega | exact Nat.le_refl _⟩, ⟨by (with_reducible repeat (first | apply Kd.R_alloc | apply Kd.R_drewN | apply Kd.R_drew)); exact HO_3.out⟩, ⟨by (with_reducible repeat (first | apply Kd.R_alloc | apply Kd.R_drewN | apply Kd.R_drew)); exact HO_6.out⟩, ⟨by (with_reducible repeat (first | apply Kd.R_alloc | apply Kd.R_drewN | apply Kd.R_drew)); exact HO_7.out⟩, ⟨by (with_reducible repeat (first | apply Kd.R_alloc | apply Kd.R_drewN | apply Kd.R_drew)); exact HO_44.out⟩, ⟨by (with_reducible repeat (first | refine blk_drewN ?_ _ | refine blk_drew ?_ | refine blk_alloc ?_ _)); exact BK387.out⟩, ⟨by repeat (first | (with_reducible first | exact HB.out | apply bwA | apply bwN | apply bwD | refine below_set ?_ GE387.out) | exact HB.out)⟩⟩
              ·replace c37 := Bool.eq_false_iff.mpr c37
               subst c37
               have H1 : (if ((rd_T37 t368 x46_2).f0) = 1 then (if 0 ≤ ((rd_T37 t368 x46_2).f1) then (if ((rd_T37 t368 x46_2).f1) < (t382.length : Int) then (if (rd t373 x46_2) = (rd t382 ((rd_T37 t368 x46_2).f1)) then (if ((rd_T37 t368 x46_2).f0) = 2 then (if 0 ≤ ((rd_T37 t368 x46_2).f2) then (if ((rd_T37 t368 x46_2).f2) < (t373.length : Int) then (laws_FnGuessTruths.j3 kj29 t368 t369 t373 t382 (rd t373 x46_2) t373 (t373.length : Int) x46_2 ((rd t373 x46_2) == (rd t373 ((rd_T37 t368 x46_2).f2))) ((rd_T37 t368 x46_2).f0) ((rd_T37 t368 x46_2).f1) ((rd_T37 t368 x46_2).f2) ((rd_T37 t368 x46_2).f3)) else (none)) else (none)) else (laws_FnGuessTruths.j3 kj29 t368 t369 t373 t382 (rd t373 x46_2) t373 (t373.length : Int) x46_2 false ((rd_T37 t368 x46_2).f0) ((rd_T37 t368 x46_2).f1) ((rd_T37 t368 x46_2).f2) ((rd_T37 t368 x46_2).f3))) else (laws_FnGuessTruths.j3 kj29 t368 t369 t373 t382 (rd t373 x46_2) t373 (t373.length : Int) x46_2 ((rd t373 x46_2) != (rd t382 ((rd_T37 t368 x46_2).f1))) ((rd_T37 t368 x46_2).f0) ((rd_T37 t368 x46_2).f1) ((rd_T37 t368 x46_2).f2) ((rd_T37 t368 x46_2).f3))) else (none)) else (none)) else (if ((rd_T37 t368 x46_2).f0) = 2 then (if 0 ≤ ((rd_T37 t368 x46_2).f2) then (if ((rd_T37 t368 x46_2).f2) < (t373.length : Int) then (laws_FnGuessTruths.j3 kj29 t368 t369 t373 t382 (rd t373 x46_2) t373 (t373.length : Int) x46_2 ((rd t373 x46_2) == (rd t373 ((rd_T37 t368 x46_2).f2))) ((rd_T37 t368 x46_2).f0) ((rd_T37 t368 x46_2).f1) ((rd_T37 t368 x46_2).f2) ((rd_T37 t368 x46_2).f3)) else (none)) else (none)) else (laws_FnGuessTruths.j3 kj29 t368 t369 t373 t382 (rd t373 x46_2) t373 (t373.length : Int) x46_2 false ((rd_T37 t368 x46_2).f0) ((rd_T37 t368 x46_2).f1) ((rd_T37 t368 x46_2).f2) ((rd_T37 t368 x46_2).f3)))) = some r := by rw [if_neg (show ¬ (false = true) by decide)] at H; exact H
               clear H
               have H := H1
               clear H1
               by_cases c38 : ((rd_T37 t368 x46_2).f0) = 1
               ·rw [if_pos c38] at H
                have c38b0 : (((rd_T37 t368 x46_2).f0) == 1) = true := beq_iff_eq.mpr c38
                have c38b1 : (((rd_T37 t368 x46_2).f0) != 1) = false := bne_eq_false_iff_eq.mpr c38
                clear c38
                (first | rw [c38b0] | (simp only [i64_w, i32_w]; rw [c38b0]) | skip)
                by_cases c39 : 0 ≤ ((rd_T37 t368 x46_2).f1)
                ·rw [if_pos c39] at H
                 have c39b0 : decide (0 ≤ ((rd_T37 t368 x46_2).f1)) = true := decide_eq_true c39
                 clear c39
                 by_cases c40 : ((rd_T37 t368 x46_2).f1) < (t382.length : Int)
                 ·rw [if_pos c40] at H
                  have c40b0 : decide (((rd_T37 t368 x46_2).f1) < (t382.length : Int)) = true := decide_eq_true c40
                  clear c40
                  by_cases c41 : (rd t373 x46_2) = (rd t382 ((rd_T37 t368 x46_2).f1))
                  ·rw [if_pos c41] at H
                   have c41b0 : ((rd t373 x46_2) == (rd t382 ((rd_T37 t368 x46_2).f1))) = true := beq_iff_eq.mpr c41
                   have c41b1 : ((rd t373 x46_2) != (rd t382 ((rd_T37 t368 x46_2).f1))) = false := bne_eq_false_iff_eq.mpr c41
                   clear c41
                   by_cases c42 : ((rd_T37 t368 x46_2).f0) = 2
                   ·rw [if_pos c42] at H
                    have c42b0 : (((rd_T37 t368 x46_2).f0) == 2) = true := beq_iff_eq.mpr c42
                    have c42b1 : (((rd_T37 t368 x46_2).f0) != 2) = false := bne_eq_false_iff_eq.mpr c42
                    clear c42
                    by_cases c43 : 0 ≤ ((rd_T37 t368 x46_2).f2)
                    ·rw [if_pos c43] at H
                     have c43b0 : decide (0 ≤ ((rd_T37 t368 x46_2).f2)) = true := decide_eq_true c43
                     clear c43
                     by_cases c44 : ((rd_T37 t368 x46_2).f2) < (t373.length : Int)
                     ·rw [if_pos c44] at H
                      have c44b0 : decide (((rd_T37 t368 x46_2).f2) < (t373.length : Int)) = true := decide_eq_true c44
                      clear c44
                      have H' := Aside0.mk H
                      clear H
                      have hcz45_0 : wc.cell? ⟨gb387, 0, none⟩ = some (.int .i64 ((rd_T37 t368 x46_2).f0)) := (blk_cell BK387.out 0).trans rfl
                      have hcz45_1 : wc.cell? ⟨gb387, 1, none⟩ = some (.int .i64 ((rd_T37 t368 x46_2).f1)) := (blk_cell BK387.out 1).trans rfl
                      have hcz45_2 : wc.cell? ⟨gb387, 2, none⟩ = some (.int .i64 ((rd_T37 t368 x46_2).f2)) := (blk_cell BK387.out 2).trans rfl
                      have hcz45_3 : wc.cell? ⟨gb387, 3, none⟩ = some (.int .i64 ((rd_T37 t368 x46_2).f3)) := (blk_cell BK387.out 3).trans rfl
                      have hfz45_0 := blk_frozen BK387.out 0
                      have hfz45_1 := blk_frozen BK387.out 1
                      have hfz45_2 := blk_frozen BK387.out 2
                      have hfz45_3 := blk_frozen BK387.out 3
                      obtain ⟨Ao46, co46, eo46⟩ := Kd.R_slice HO_7.out
                      subst eo46
                      have p388 : 0 ≤ (((rd_T37 t368 x46_2).f1) : Int) := of_decide_eq_true (by first | (with_reducible assumption) | assumption)
                      have q388 : ((rd_T37 t368 x46_2).f1) < (t382.length : Int) := of_decide_eq_true (by first | (with_reducible assumption) | assumption)
                      obtain ⟨ad388, e388, hx388_0⟩ := Kd.at_int (Kd.R_reads' HO_7.out).2.2 ((rd_T37 t368 x46_2).f1) p388 q388
                      cases e388
                      replace p388 := eq_true p388
                      replace q388 := eq_true q388
                      have p389 : 0 ≤ (((rd_T37 t368 x46_2).f2) : Int) := of_decide_eq_true (by first | (with_reducible assumption) | assumption)
                      have q389 : ((rd_T37 t368 x46_2).f2) < (t373.length : Int) := of_decide_eq_true (by first | (with_reducible assumption) | assumption)
                      obtain ⟨ad389, e389, hx389_0⟩ := Kd.at_int (Kd.R_reads' HO_6.out).2.2 ((rd_T37 t368 x46_2).f2) p389 q389
                      obtain rfl : ad385 = ad389 := (by injection e389)
                      replace p389 := eq_true p389
                      replace q389 := eq_true q389
                      go_wp2
                      repeat (go_quiet (fail); try go_wp2)
                      go_meet
                      case rel => exact ⟨_, (((rd t373 x46_2) == (rd t373 ((rd_T37 t368 x46_2).f2)))), (by first | rfl | (simp; done) | (simp [*]; done)), H', ⟨by have := HJ4.out; have := HK2.out; have := HJ29.out; first | omega | exact Nat.le_refl _⟩, ⟨by (with_reducible repeat (first | apply Kd.R_alloc | apply Kd.R_drewN | apply Kd.R_drew)); exact HO_3.out⟩, ⟨by (with_reducible repeat (first | apply Kd.R_alloc | apply Kd.R_drewN | apply Kd.R_drew)); exact HO_6.out⟩, ⟨by (with_reducible repeat (first | apply Kd.R_alloc | apply Kd.R_drewN | apply Kd.R_drew)); exact HO_7.out⟩, ⟨by (with_reducible repeat (first | apply Kd.R_alloc | apply Kd.R_drewN | apply Kd.R_drew)); exact HO_44.out⟩, ⟨by (with_reducible repeat (first | refine blk_drewN ?_ _ | refine blk_drew ?_ | refine blk_alloc ?_ _)); exact BK387.out⟩, ⟨by repeat (first | (with_reducible first | exact HB.out | apply bwA | apply bwN | apply bwD | refine below_set ?_ GE387.out) | exact HB.out)⟩⟩
                     ·rw [if_neg c44] at H
                      exact absurd H (by simp)
                    ·rw [if_neg c43] at H
                     exact absurd H (by simp)
                   ·rw [if_neg c42] at H
                    have c42b0 : (((rd_T37 t368 x46_2).f0) == 2) = false := beq_eq_false_iff_ne.mpr c42
                    have c42b1 : (((rd_T37 t368 x46_2).f0) != 2) = true := bne_iff_ne.mpr c42
                    have H' := Aside0.mk H
                    clear H
                    have hcz47_0 : wc.cell? ⟨gb387, 0, none⟩ = some (.int .i64 ((rd_T37 t368 x46_2).f0)) := (blk_cell BK387.out 0).trans rfl
                    have hcz47_1 : wc.cell? ⟨gb387, 1, none⟩ = some (.int .i64 ((rd_T37 t368 x46_2).f1)) := (blk_cell BK387.out 1).trans rfl
                    have hcz47_2 : wc.cell? ⟨gb387, 2, none⟩ = some (.int .i64 ((rd_T37 t368 x46_2).f2)) := (blk_cell BK387.out 2).trans rfl
                    have hcz47_3 : wc.cell? ⟨gb387, 3, none⟩ = some (.int .i64 ((rd_T37 t368 x46_2).f3)) := (blk_cell BK387.out 3).trans rfl
                    have hfz47_0 := blk_frozen BK387.out 0
                    have hfz47_1 := blk_frozen BK387.out 1
                    have hfz47_2 := blk_frozen BK387.out 2
                    have hfz47_3 := blk_frozen BK387.out 3
                    obtain ⟨Ao48, co48, eo48⟩ := Kd.R_slice HO_7.out
                    subst eo48
                    have p388 : 0 ≤ (((rd_T37 t368 x46_2).f1) : Int) := of_decide_eq_true (by first | (with_reducible assumption) | assumption)
                    have q388 : ((rd_T37 t368 x46_2).f1) < (t382.length : Int) := of_decide_eq_true (by first | (with_reducible assumption) | assumption)
                    obtain ⟨ad388, e388, hx388_0⟩ := Kd.at_int (Kd.R_reads' HO_7.out).2.2 ((rd_T37 t368 x46_2).f1) p388 q388
                    cases e388
                    replace p388 := eq_true p388
                    replace q388 := eq_true q388
                    go_wp2
                    repeat (go_quiet (fail); try go_wp2)
                    go_meet
                    case rel => exact ⟨_, (false), (by first | rfl | (simp; done) | (simp [*]; done)), H', ⟨by have := HJ4.out; have := HK2.out; have := HJ29.out; first | omega | exact Nat.le_refl _⟩, ⟨by (with_reducible repeat (first | apply Kd.R_alloc | apply Kd.R_drewN | apply Kd.R_drew)); exact HO_3.out⟩, ⟨by (with_reducible repeat (first | apply Kd.R_alloc | apply Kd.R_drewN | apply Kd.R_drew)); exact HO_6.out⟩, ⟨by (with_reducible repeat (first | apply Kd.R_alloc | apply Kd.R_drewN | apply Kd.R_drew)); exact HO_7.out⟩, ⟨by (with_reducible repeat (first | apply Kd.R_alloc | apply Kd.R_drewN | apply Kd.R_drew)); exact HO_44.out⟩, ⟨by (with_reducible repeat (first | refine blk_drewN ?_ _ | refine blk_drew ?_ | refine blk_alloc ?_ _)); exact BK387.out⟩, ⟨by repeat (first | (with_reducible first | exact HB.out | apply bwA | apply bwN | apply bwD | refine below_set ?_ GE387.out) | exact HB.out)⟩⟩
                  ·rw [if_neg c41] at H
                   have c41b0 : ((rd t373 x46_2) == (rd t382 ((rd_T37 t368 x46_2).f1))) = false := beq_eq_false_iff_ne.mpr c41
                   have c41b1 : ((rd t373 x46_2) != (rd t382 ((rd_T37 t368 x46_2).f1))) = true := bne_iff_ne.mpr c41
                   have H' := Aside0.mk H
                   clear H
                   have hcz49_0 : wc.cell? ⟨gb387, 0, none⟩ = some (.int .i64 ((rd_T37 t368 x46_2).f0)) := (blk_cell BK387.out 0).trans rfl
                   have hcz49_1 : wc.cell? ⟨gb387, 1, none⟩ = some (.int .i64 ((rd_T37 t368 x46_2).f1)) := (blk_cell BK387.out 1).trans rfl
                   have hcz49_2 : wc.cell? ⟨gb387, 2, none⟩ = some (.int .i64 ((rd_T37 t368 x46_2).f2)) := (blk_cell BK387.out 2).trans rfl
                   have hcz49_3 : wc.cell? ⟨gb387, 3, none⟩ = some (.int .i64 ((rd_T37 t368 x46_2).f3)) := (blk_cell BK387.out 3).trans rfl
                   have hfz49_0 := blk_frozen BK387.out 0
                   have hfz49_1 := blk_frozen BK387.out 1
                   have hfz49_2 := blk_frozen BK387.out 2
                   have hfz49_3 := blk_frozen BK387.out 3
                   obtain ⟨Ao50, co50, eo50⟩ := Kd.R_slice HO_7.out
                   subst eo50
                   have p388 : 0 ≤ (((rd_T37 t368 x46_2).f1) : Int) := of_decide_eq_true (by first | (with_reducible assumption) | assumption)
                   have q388 : ((rd_T37 t368 x46_2).f1) < (t382.length : Int) := of_decide_eq_true (by first | (with_reducible assumption) | assumption)
                   obtain ⟨ad388, e388, hx388_0⟩ := Kd.at_int (Kd.R_reads' HO_7.out).2.2 ((rd_T37 t368 x46_2).f1) p388 q388
                   cases e388
                   replace p388 := eq_true p388
                   replace q388 := eq_true q388
                   go_wp2
                   repeat (go_quiet (fail); try go_wp2)
                   go_meet
                   case rel => exact ⟨_, (((rd t373 x46_2) != (rd t382 ((rd_T37 t368 x46_2).f1)))), (by first | rfl | (simp; done) | (simp [*]; done)), H', ⟨by have := HJ4.out; have := HK2.out; have := HJ29.out; first | omega | exact Nat.le_refl _⟩, ⟨by (with_reducible repeat (first | apply Kd.R_alloc | apply Kd.R_drewN | apply Kd.R_drew)); exact HO_3.out⟩, ⟨by (with_reducible repeat (first | apply Kd.R_alloc | apply Kd.R_drewN | apply Kd.R_drew)); exact HO_6.out⟩, ⟨by (with_reducible repeat (first | apply Kd.R_alloc | apply Kd.R_drewN | apply Kd.R_drew)); exact HO_7.out⟩, ⟨by (with_reducible repeat (first | apply Kd.R_alloc | apply Kd.R_drewN | apply Kd.R_drew)); exact HO_44.out⟩, ⟨by (with_reducible repeat (first | refine blk_drewN ?_ _ | refine blk_drew ?_ | refine blk_alloc ?_ _)); exact BK387.out⟩, ⟨by repeat (first | (with_reducible first | exact HB.out | apply bwA | apply bwN | apply bwD | refine below_set ?_ GE387.out) | exact HB.out)⟩⟩
                 ·rw [if_neg c40] at H
                  exact absurd H (by simp)
                ·rw [if_neg c39] at H
                 exact absurd H (by simp)
               ·rw [if_neg c38] at H
                have c38b0 : (((rd_T37 t368 x46_2).f0) == 1) = false := beq_eq_false_iff_ne.mpr c38
                have c38b1 : (((rd_T37 t368 x46_2).f0) != 1) = true := bne_iff_ne.mpr c38
                (first | rw [c38b0] | (simp only [i64_w, i32_w]; rw [c38b0]) | skip)
                by_cases c51 : ((rd_T37 t368 x46_2).f0) = 2
                ·rw [if_pos c51] at H
                 have c51b0 : (((rd_T37 t368 x46_2).f0) == 2) = true := beq_iff_eq.mpr c51
                 have c51b1 : (((rd_T37 t368 x46_2).f0) != 2) = false := bne_eq_false_iff_eq.mpr c51
                 clear c51
                 by_cases c52 : 0 ≤ ((rd_T37 t368 x46_2).f2)
                 ·rw [if_pos c52] at H
                  have c52b0 : decide (0 ≤ ((rd_T37 t368 x46_2).f2)) = true := decide_eq_true c52
                  clear c52
                  by_cases c53 : ((rd_T37 t368 x46_2).f2) < (t373.length : Int)
                  ·rw [if_pos c53] at H
                   have c53b0 : decide (((rd_T37 t368 x46_2).f2) < (t373.length : Int)) = true := decide_eq_true c53
                   clear c53
                   have H' := Aside0.mk H
                   clear H
                   have hcz54_0 : wc.cell? ⟨gb387, 0, none⟩ = some (.int .i64 ((rd_T37 t368 x46_2).f0)) := (blk_cell BK387.out 0).trans rfl
                   have hcz54_1 : wc.cell? ⟨gb387, 1, none⟩ = some (.int .i64 ((rd_T37 t368 x46_2).f1)) := (blk_cell BK387.out 1).trans rfl
                   have hcz54_2 : wc.cell? ⟨gb387, 2, none⟩ = some (.int .i64 ((rd_T37 t368 x46_2).f2)) := (blk_cell BK387.out 2).trans rfl
                   have hcz54_3 : wc.cell? ⟨gb387, 3, none⟩ = some (.int .i64 ((rd_T37 t368 x46_2).f3)) := (blk_cell BK387.out 3).trans rfl
                   have hfz54_0 := blk_frozen BK387.out 0
                   have hfz54_1 := blk_frozen BK387.out 1
                   have hfz54_2 := blk_frozen BK387.out 2
                   have hfz54_3 := blk_frozen BK387.out 3
                   have p390 : 0 ≤ (((rd_T37 t368 x46_2).f2) : Int) := of_decide_eq_true (by first | (with_reducible assumption) | assumption)
                   have q390 : ((rd_T37 t368 x46_2).f2) < (t373.length : Int) := of_decide_eq_true (by first | (with_reducible assumption) | assumption)
                   obtain ⟨ad390, e390, hx390_0⟩ := Kd.at_int (Kd.R_reads' HO_6.out).2.2 ((rd_T37 t368 x46_2).f2) p390 q390
                   obtain rfl : ad385 = ad390 := (by injection e390)
                   replace p390 := eq_true p390
                   replace q390 := eq_true q390
                   go_wp2
                   repeat (go_quiet (fail); try go_wp2)
                   go_meet
                   case rel => exact ⟨_, (((rd t373 x46_2) == (rd t373 ((rd_T37 t368 x46_2).f2)))), (by first | rfl | (simp; done) | (simp [*]; done)), H', ⟨by have := HJ4.out; have := HK2.out; have := HJ29.out; first | omega | exact Nat.le_refl _⟩, ⟨by (with_reducible repeat (first | apply Kd.R_alloc | apply Kd.R_drewN | apply Kd.R_drew)); exact HO_3.out⟩, ⟨by (with_reducible repeat (first | apply Kd.R_alloc | apply Kd.R_drewN | apply Kd.R_drew)); exact HO_6.out⟩, ⟨by (with_reducible repeat (first | apply Kd.R_alloc | apply Kd.R_drewN | apply Kd.R_drew)); exact HO_7.out⟩, ⟨by (with_reducible repeat (first | apply Kd.R_alloc | apply Kd.R_drewN | apply Kd.R_drew)); exact HO_44.out⟩, ⟨by (with_reducible repeat (first | refine blk_drewN ?_ _ | refine blk_drew ?_ | refine blk_alloc ?_ _)); exact BK387.out⟩, ⟨by repeat (first | (with_reducible first | exact HB.out | apply bwA | apply bwN | apply bwD | refine below_set ?_ GE387.out) | exact HB.out)⟩⟩
                  ·rw [if_neg c53] at H
                   exact absurd H (by simp)
                 ·rw [if_neg c52] at H
                  exact absurd H (by simp)
                ·rw [if_neg c51] at H
                 have c51b0 : (((rd_T37 t368 x46_2).f0) == 2) = false := beq_eq_false_iff_ne.mpr c51
                 have c51b1 : (((rd_T37 t368 x46_2).f0) != 2) = true := bne_iff_ne.mpr c51
                 have H' := Aside0.mk H
                 clear H
                 have hcz55_0 : wc.cell? ⟨gb387, 0, none⟩ = some (.int .i64 ((rd_T37 t368 x46_2).f0)) := (blk_cell BK387.out 0).trans rfl
                 have hcz55_1 : wc.cell? ⟨gb387, 1, none⟩ = some (.int .i64 ((rd_T37 t368 x46_2).f1)) := (blk_cell BK387.out 1).trans rfl
                 have hcz55_2 : wc.cell? ⟨gb387, 2, none⟩ = some (.int .i64 ((rd_T37 t368 x46_2).f2)) := (blk_cell BK387.out 2).trans rfl
                 have hcz55_3 : wc.cell? ⟨gb387, 3, none⟩ = some (.int .i64 ((rd_T37 t368 x46_2).f3)) := (blk_cell BK387.out 3).trans rfl
                 have hfz55_0 := blk_frozen BK387.out 0
                 have hfz55_1 := blk_frozen BK387.out 1
                 have hfz55_2 := blk_frozen BK387.out 2
                 have hfz55_3 := blk_frozen BK387.out 3
                 go_wp2
                 repeat (go_quiet (fail); try go_wp2)
                 go_meet
                 case rel => exact ⟨_, (false), (by first | rfl | (simp; done) | (simp [*]; done)), H', ⟨by have := HJ4.out; have := HK2.out; have := HJ29.out; first | omega | exact Nat.le_refl _⟩, ⟨by (with_reducible repeat (first | apply Kd.R_alloc | apply Kd.R_drewN | apply Kd.R_drew)); exact HO_3.out⟩, ⟨by (with_reducible repeat (first | apply Kd.R_alloc | apply Kd.R_drewN | apply Kd.R_drew)); exact HO_6.out⟩, ⟨by (with_reducible repeat (first | apply Kd.R_alloc | apply Kd.R_drewN | apply Kd.R_drew)); exact HO_7.out⟩, ⟨by (with_reducible repeat (first | apply Kd.R_alloc | apply Kd.R_drewN | apply Kd.R_drew)); exact HO_44.out⟩, ⟨by (with_reducible repeat (first | refine blk_drewN ?_ _ | refine blk_drew ?_ | refine blk_alloc ?_ _)); exact BK387.out⟩, ⟨by repeat (first | (with_reducible first | exact HB.out | apply bwA | apply bwN | apply bwD | refine below_set ?_ GE387.out) | exact HB.out)⟩⟩
             case rest =>
              clear HC36
              try clear c1
              try clear c2
              try clear c2b0
              try clear c2b1
              try clear p2
              try clear c3
              try clear p3
              try clear q3
              try clear hx3
              try clear c4
              try clear c5
              try clear c6
              try clear c11
              try clear c22
              try clear c26
              try clear c26b0
              try clear c27
              try clear c27b0
              try clear c28
              try clear c28b0
              try clear c29
              try clear c29b0
              try clear c33
              try clear c33b0
              try clear c33b1
              try clear c37
              try clear c38
              try clear c38b0
              try clear c38b1
              try clear p38
              try clear q38
              try clear hx38
              try clear c39
              try clear c39b0
              try clear p39
              try clear q39
              try clear hx39
              try clear c40
              try clear c40b0
              try clear c41
              try clear c41b0
              try clear c41b1
              try clear c42
              try clear c42b0
              try clear c42b1
              try clear c43
              try clear c43b0
              try clear c44
              try clear c44b0
              try clear c51
              try clear c51b0
              try clear c51b1
              try clear c52
              try clear c52b0
              try clear c53
              try clear c53b0
              try clear hcz32_0
              try clear hcz32_1
              try clear hcz32_2
              try clear hcz32_3
              try clear hcz34_0
              try clear hcz34_1
              try clear hcz34_2
              try clear hcz34_3
              try clear hcz35_0
              try clear hcz35_1
              try clear hcz35_2
              try clear hcz35_3
              try clear hcz45_0
              try clear hcz45_1
              try clear hcz45_2
              try clear hcz45_3
              try clear hcz47_0
              try clear hcz47_1
              try clear hcz47_2
              try clear hcz47_3
              try clear hcz49_0
              try clear hcz49_1
              try clear hcz49_2
              try clear hcz49_3
              try clear hcz54_0
              try clear hcz54_1
              try clear hcz54_2
              try clear hcz54_3
              try clear hcz55_0
              try clear hcz55_1
              try clear hcz55_2
              try clear hcz55_3
              try clear hfz32_0
              try clear hfz32_1
              try clear hfz32_2
              try clear hfz32_3
              try clear hfz34_0
              try clear hfz34_1
              try clear hfz34_2
              try clear hfz34_3
              try clear hfz35_0
              try clear hfz35_1
              try clear hfz35_2
              try clear hfz35_3
              try clear hfz45_0
              try clear hfz45_1
              try clear hfz45_2
              try clear hfz45_3
              try clear hfz47_0
              try clear hfz47_1
              try clear hfz47_2
              try clear hfz47_3
              try clear hfz49_0
              try clear hfz49_1
              try clear hfz49_2
              try clear hfz49_3
              try clear hfz54_0
              try clear hfz54_1
              try clear hfz54_2
              try clear hfz54_3
              try clear hfz55_0
              try clear hfz55_1
              try clear hfz55_2
              try clear hfz55_3
              try clear hx385_0
              try clear hx386_0
              try clear hx386_1
              try clear hx386_2
              try clear hx386_3
              try clear hx388_0
              try clear hx389_0
              try clear hx390_0
              try clear p2
              try clear p3
              try clear p385
              try clear p386
              try clear p388
              try clear p389
              try clear p390
              try clear q3
              try clear q385
              try clear q386
              try clear q388
              try clear q389
              try clear q390
              obtain ⟨kq, x55_35, rfl, HA, HJ35, HO_3, HO_6, HO_7, HO_44, BK387, HB⟩ := hcut
              cases kq with
              | zero => exact absurd HA.out (by simp [laws_FnGuessTruths.j3])
              | succ kj35 =>
               have H := HA.out
               clear HA
               simp only [laws_FnGuessTruths.j3] at H
               by_cases c56 : x55_35 = true
               ·subst c56
                have H1 : (some false) = some r := by rw [if_pos rfl] at H; exact H
                clear H
                have H := H1
                clear H1
                obtain rfl := Option.some.inj H
                go_wp2
                repeat (go_quiet (fail); try go_wp2)
                go_ret
                exact ⟨by first | rfl | (simp [errW_none, errW_some] <;> rfl) | (simp [*, errW_none, errW_some] <;> rfl), by repeat (first | (with_reducible first | exact HB.out | apply bwA | apply bwN | apply bwD | refine below_set ?_ GE387.out) | exact HB.out)⟩
               ·replace c56 := Bool.eq_false_iff.mpr c56
                subst c56
                have H1 : (if ((rd_T37 t368 x46_2).f0) = 3 then (if 0 ≤ ((rd_T37 t368 x46_2).f2) then (if ((rd_T37 t368 x46_2).f2) < (t373.length : Int) then (if 0 ≤ ((rd_T37 t368 x46_2).f3) then (if ((rd_T37 t368 x46_2).f3) < (t373.length : Int) then (laws_FnGuessTruths.j4 kj35 t368 t369 t373 t382 (rd t373 x46_2) t373 (t373.length : Int) x46_2 ((rd t373 x46_2) != (wrap64 ((rd t373 ((rd_T37 t368 x46_2).f2)) * (rd t373 ((rd_T37 t368 x46_2).f3))))) ((rd_T37 t368 x46_2).f0) ((rd_T37 t368 x46_2).f1) ((rd_T37 t368 x46_2).f2) ((rd_T37 t368 x46_2).f3)) else (none)) else (none)) else (none)) else (none)) else (laws_FnGuessTruths.j4 kj35 t368 t369 t373 t382 (rd t373 x46_2) t373 (t373.length : Int) x46_2 false ((rd_T37 t368 x46_2).f0) ((rd_T37 t368 x46_2).f1) ((rd_T37 t368 x46_2).f2) ((rd_T37 t368 x46_2).f3))) = some r := by rw [if_neg (show ¬ (false = true) by decide)] at H; exact H
                clear H
                have H := H1
                clear H1
                have HC57 := Aside0.mk H
                clear H
                go_upto_region 16 with (fail)
                repeat (go_quiet (fail); go_upto_region 16 with (fail))
                go_cut [87] (fun v87 wc => ∃ (kq : Nat) (x87_56 : Bool), v87 = .bool x87_56 ∧ Aside0 (laws_FnGuessTruths.j4 kq t368 t369 t373 t382 (rd t373 x46_2) t373 (t373.length : Int) x46_2 x87_56 ((rd_T37 t368 x46_2).f0) ((rd_T37 t368 x46_2).f1) ((rd_T37 t368 x46_2).f2) ((rd_T37 t368 x46_2).f3) = some r) ∧ Aside0 (kq ≤ kj35) ∧ Aside0 (Kd.R k37 37 wc w.heap.size (fun k_ => k_ ≠ gb387) (.slice (some ad386) t368.length co7) t368) ∧ Aside0 (Kd.R (Kd.int .i64) 3 wc w.heap.size (fun k_ => some k_ ≠ (v383 : Value).ownBlock) (.slice (some ad385) t373.length co25) t373) ∧ Aside0 (Kd.R (Kd.int .i64) 3 wc w.heap.size (fun k_ => some k_ ≠ ((.slice (some ad385) t373.length co25) : Value).ownBlock ∧ some k_ ≠ ((.slice (some ad385) t373.length co25) : Value).ownBlock) v383 t382) ∧ Aside0 (Kd.R (Kd.int .i64) 3 wc w.heap.size (fun k_ => some k_ ≠ (v383 : Value).ownBlock) (.slice (some ad385) t373.length co25) t373) ∧ Aside0 (wc.heap[gb387]? = some (.cells #[.int .i64 ((rd_T37 t368 x46_2).f0), .int .i64 ((rd_T37 t368 x46_2).f1), .int .i64 ((rd_T37 t368 x46_2).f2), .int .i64 ((rd_T37 t368 x46_2).f3)] 37 (0, 0))) ∧ Aside0 (Below w.heap.size w wc))
                case first =>
                 have H := HC57.out
                 clear HC57
                 by_cases c58 : ((rd_T37 t368 x46_2).f0) = 3
                 ·rw [if_pos c58] at H
                  have c58b0 : (((rd_T37 t368 x46_2).f0) == 3) = true := beq_iff_eq.mpr c58
                  have c58b1 : (((rd_T37 t368 x46_2).f0) != 3) = false := bne_eq_false_iff_eq.mpr c58
                  clear c58
                  (first | rw [c58b0] | (simp only [i64_w, i32_w]; rw [c58b0]) | skip)
                  by_cases c59 : 0 ≤ ((rd_T37 t368 x46_2).f2)
                  ·rw [if_pos c59] at H
                   have c59b0 : decide (0 ≤ ((rd_T37 t368 x46_2).f2)) = true := decide_eq_true c59
                   clear c59
                   by_cases c60 : ((rd_T37 t368 x46_2).f2) < (t373.length : Int)
                   ·rw [if_pos c60] at H
                    have c60b0 : decide (((rd_T37 t368 x46_2).f2) < (t373.length : Int)) = true := decide_eq_true c60
                    clear c60
                    by_cases c61 : 0 ≤ ((rd_T37 t368 x46_2).f3)
                    ·rw [if_pos c61] at H
                     have c61b0 : decide (0 ≤ ((rd_T37 t368 x46_2).f3)) = true := decide_eq_true c61
                     clear c61
                     by_cases c62 : ((rd_T37 t368 x46_2).f3) < (t373.length : Int)
                     ·rw [if_pos c62] at H
                      have c62b0 : decide (((rd_T37 t368 x46_2).f3) < (t373.length : Int)) = true := decide_eq_true c62
                      clear c62
                      have H' := Aside0.mk H
                      clear H
                      have hcz63_0 : wc.cell? ⟨gb387, 0, none⟩ = some (.int .i64 ((rd_T37 t368 x46_2).f0)) := (blk_cell BK387.out 0).trans rfl
                      have hcz63_1 : wc.cell? ⟨gb387, 1, none⟩ = some (.int .i64 ((rd_T37 t368 x46_2).f1)) := (blk_cell BK387.out 1).trans rfl
                      have hcz63_2 : wc.cell? ⟨gb387, 2, none⟩ = some (.int .i64 ((rd_T37 t368 x46_2).f2)) := (blk_cell BK387.out 2).trans rfl
                      have hcz63_3 : wc.cell? ⟨gb387, 3, none⟩ = some (.int .i64 ((rd_T37 t368 x46_2).f3)) := (blk_cell BK387.out 3).trans rfl
                      have hfz63_0 := blk_frozen BK387.out 0
                      have hfz63_1 := blk_frozen BK387.out 1
                      have hfz63_2 := blk_frozen BK387.out 2
                      have hfz63_3 := blk_frozen BK387.out 3
                      have p391 : 0 ≤ (((rd_T37 t368 x46_2).f2) : Int) := of_decide_eq_true (by first | (with_reducible assumption) | assumption)
                      have q391 : ((rd_T37 t368 x46_2).f2) < (t373.length : Int) := of_decide_eq_true (by first | (with_reducible assumption) | assumption)
                      obtain ⟨ad391, e391, hx391_0⟩ := Kd.at_int (Kd.R_reads' HO_6.out).2.2 ((rd_T37 t368 x46_2).f2) p391 q391
                      obtain rfl : ad385 = ad391 := (by injection e391)
                      replace p391 := eq_true p391
                      replace q391 := eq_true q391
                      have p392 : 0 ≤ (((rd_T37 t368 x46_2).f3) : Int) := of_decide_eq_true (by first | (with_reducible assumption) | assumption)
                      have q392 : ((rd_T37 t368 x46_2).f3) < (t373.length : Int) := of_decide_eq_true (by first | (with_reducible assumption) | assumption)
                      obtain ⟨ad392, e392, hx392_0⟩ := Kd.at_int (Kd.R_reads' HO_6.out).2.2 ((rd_T37 t368 x46_2).f3) p392 q392
                      obtain rfl : ad385 = ad392 := (by injection e392)
                      replace p392 := eq_true p392
                      replace q392 := eq_true q392
                      go_wp2
                      repeat (go_quiet (fail); try go_wp2)
                      go_meet
                      case rel => exact ⟨_, (((rd t373 x46_2) != (wrap64 ((rd t373 ((rd_T37 t368 x46_2).f2)) * (rd t373 ((rd_T37 t368 x46_2).f3)))))), (by first | rfl | (simp; done) | (simp [*]; done)), H', ⟨by have := HJ4.out; have := HK2.out; have := HJ29.out; have := HJ35.out; first | omega | exact Nat.le_refl _⟩, ⟨by (with_reducible repeat (first | apply Kd.R_alloc | apply Kd.R_drewN | apply Kd.R_drew)); exact HO_3.out⟩, ⟨by (with_reducible repeat (first | apply Kd.R_alloc | apply Kd.R_drewN | apply Kd.R_drew)); exact HO_6.out⟩, ⟨by (with_reducible repeat (first | apply Kd.R_alloc | apply Kd.R_drewN | apply Kd.R_drew)); exact HO_7.out⟩, ⟨by (with_reducible repeat (first | apply Kd.R_alloc | apply Kd.R_drewN | apply Kd.R_drew)); exact HO_44.out⟩, ⟨by (with_reducible repeat (first | refine blk_drewN ?_ _ | refine blk_drew ?_ | refine blk_alloc ?_ _)); exact BK387.out⟩, ⟨by repeat (first | (with_reducible first | exact HB.out | apply bwA | apply bwN | apply bwD | refine below_set ?_ GE387.out) | exact HB.out)⟩⟩
                     ·rw [if_neg c62] at H
                      exact absurd H (by simp)
                    ·rw [if_neg c61] at H
                     exact absurd H (by simp)
                   ·rw [if_neg c60] at H
                    exact absurd H (by simp)
                  ·rw [if_neg c59] at H
                   exact absurd H (by simp)
                 ·rw [if_neg c58] at H
                  have c58b0 : (((rd_T37 t368 x46_2).f0) == 3) = false := beq_eq_false_iff_ne.mpr c58
                  have c58b1 : (((rd_T37 t368 x46_2).f0) != 3) = true := bne_iff_ne.mpr c58
                  (first | rw [c58b0] | (simp only [i64_w, i32_w]; rw [c58b0]) | skip)
                  have H' := Aside0.mk H
                  clear H
                  have hcz64_0 : wc.cell? ⟨gb387, 0, none⟩ = some (.int .i64 ((rd_T37 t368 x46_2).f0)) := (blk_cell BK387.out 0).trans rfl
                  have hcz64_1 : wc.cell? ⟨gb387, 1, none⟩ = some (.int .i64 ((rd_T37 t368 x46_2).f1)) := (blk_cell BK387.out 1).trans rfl
                  have hcz64_2 : wc.cell? ⟨gb387, 2, none⟩ = some (.int .i64 ((rd_T37 t368 x46_2).f2)) := (blk_cell BK387.out 2).trans rfl
                  have hcz64_3 : wc.cell? ⟨gb387, 3, none⟩ = some (.int .i64 ((rd_T37 t368 x46_2).f3)) := (blk_cell BK387.out 3).trans rfl
                  have hfz64_0 := blk_frozen BK387.out 0
                  have hfz64_1 := blk_frozen BK387.out 1
                  have hfz64_2 := blk_frozen BK387.out 2
                  have hfz64_3 := blk_frozen BK387.out 3
                  go_wp2
                  repeat (go_quiet (fail); try go_wp2)
                  go_meet
                  case rel => exact ⟨_, (false), (by first | rfl | (simp; done) | (simp [*]; done)), H', ⟨by have := HJ4.out; have := HK2.out; have := HJ29.out; have := HJ35.out; first | omega | exact Nat.le_refl _⟩, ⟨by (with_reducible repeat (first | apply Kd.R_alloc | apply Kd.R_drewN | apply Kd.R_drew)); exact HO_3.out⟩, ⟨by (with_reducible repeat (first | apply Kd.R_alloc | apply Kd.R_drewN | apply Kd.R_drew)); exact HO_6.out⟩, ⟨by (with_reducible repeat (first | apply Kd.R_alloc | apply Kd.R_drewN | apply Kd.R_drew)); exact HO_7.out⟩, ⟨by (with_reducible repeat (first | apply Kd.R_alloc | apply Kd.R_drewN | apply Kd.R_drew)); exact HO_44.out⟩, ⟨by (with_reducible repeat (first | refine blk_drewN ?_ _ | refine blk_drew ?_ | refine blk_alloc ?_ _)); exact BK387.out⟩, ⟨by repeat (first | (with_reducible first | exact HB.out | apply bwA | apply bwN | apply bwD | refine below_set ?_ GE387.out) | exact HB.out)⟩⟩
                case rest =>
                 clear HC57
                 try clear c1
                 try clear c2
                 try clear c2b0
                 try clear c2b1
                 try clear p2
                 try clear c3
                 try clear p3
                 try clear q3
                 try clear hx3
                 try clear c4
                 try clear c5
                 try clear c6
                 try clear p6
                 try clear c11
                 try clear c22
                 try clear c26
                 try clear c26b0
                 try clear c27
                 try clear c27b0
                 try clear c28
                 try clear c28b0
                 try clear c29
                 try clear c29b0
                 try clear c33
                 try clear c33b0
                 try clear c33b1
                 try clear c37
                 try clear c38
                 try clear c38b0
                 try clear c38b1
                 try clear p38
                 try clear q38
                 try clear hx38
                 try clear c39
                 try clear c39b0
                 try clear p39
                 try clear q39
                 try clear hx39
                 try clear c40
                 try clear c40b0
                 try clear c41
                 try clear c41b0
                 try clear c41b1
                 try clear c42
                 try clear c42b0
                 try clear c42b1
                 try clear c43
                 try clear c43b0
                 try clear c44
                 try clear c44b0
                 try clear c51
                 try clear c51b0
                 try clear c51b1
                 try clear c52
                 try clear c52b0
                 try clear c53
                 try clear c53b0
                 try clear c56
                 try clear c58
                 try clear c58b0
                 try clear c58b1
                 try clear c59
                 try clear c59b0
                 try clear c60
                 try clear c60b0
                 try clear c61
                 try clear c61b0
                 try clear c62
                 try clear c62b0
                 try clear p64
                 try clear hcz32_0
                 try clear hcz32_1
                 try clear hcz32_2
                 try clear hcz32_3
                 try clear hcz34_0
                 try clear hcz34_1
                 try clear hcz34_2
                 try clear hcz34_3
                 try clear hcz35_0
                 try clear hcz35_1
                 try clear hcz35_2
                 try clear hcz35_3
                 try clear hcz45_0
                 try clear hcz45_1
                 try clear hcz45_2
                 try clear hcz45_3
                 try clear hcz47_0
                 try clear hcz47_1
                 try clear hcz47_2
                 try clear hcz47_3
                 try clear hcz49_0
                 try clear hcz49_1
                 try clear hcz49_2
                 try clear hcz49_3
                 try clear hcz54_0
                 try clear hcz54_1
                 try clear hcz54_2
                 try clear hcz54_3
                 try clear hcz55_0
                 try clear hcz55_1
                 try clear hcz55_2
                 try clear hcz55_3
                 try clear hcz63_0
                 try clear hcz63_1
                 try clear hcz63_2
                 try clear hcz63_3
                 try clear hcz64_0
                 try clear hcz64_1
                 try clear hcz64_2
                 try clear hcz64_3
                 try clear hfz32_0
                 try clear hfz32_1
                 try clear hfz32_2
                 try clear hfz32_3
                 try clear hfz34_0
                 try clear hfz34_1
                 try clear hfz34_2
                 try clear hfz34_3
                 try clear hfz35_0
                 try clear hfz35_1
                 try clear hfz35_2
                 try clear hfz35_3
                 try clear hfz45_0
                 try clear hfz45_1
                 try clear hfz45_2
                 try clear hfz45_3
                 try clear hfz47_0
                 try clear hfz47_1
                 try clear hfz47_2
                 try clear hfz47_3
                 try clear hfz49_0
                 try clear hfz49_1
                 try clear hfz49_2
                 try clear hfz49_3
                 try clear hfz54_0
                 try clear hfz54_1
                 try clear hfz54_2
                 try clear hfz54_3
                 try clear hfz55_0
                 try clear hfz55_1
                 try clear hfz55_2
                 try clear hfz55_3
                 try clear hfz63_0
                 try clear hfz63_1
                 try clear hfz63_2
                 try clear hfz63_3
                 try clear hfz64_0
                 try clear hfz64_1
                 try clear hfz64_2
                 try clear hfz64_3
                 try clear hx385_0
                 try clear hx386_0
                 try clear hx386_1
                 try clear hx386_2
                 try clear hx386_3
                 try clear hx388_0
                 try clear hx389_0
                 try clear hx390_0
                 try clear hx391_0
                 try clear hx392_0
                 try clear p2
                 try clear p3
                 try clear p38
                 try clear p385
                 try clear p386
                 try clear p388
                 try clear p389
                 try clear p39
                 try clear p390
                 try clear p391
                 try clear p392
                 try clear q3
                 try clear q38
                 try clear q385
                 try clear q386
                 try clear q388
                 try clear q389
                 try clear q39
                 try clear q390
                 try clear q391
                 try clear q392
                 obtain ⟨kq, x87_56, rfl, HA, HJ56, HO_3, HO_6, HO_7, HO_44, BK387, HB⟩ := hcut
                 cases kq with
                 | zero => exact absurd HA.out (by simp [laws_FnGuessTruths.j4])
                 | succ kj56 =>
                  have H := HA.out
                  clear HA
                  simp only [laws_FnGuessTruths.j4] at H
                  by_cases c65 : x87_56 = true
                  ·subst c65
                   have H1 : (some false) = some r := by rw [if_pos rfl] at H; exact H
                   clear H
                   have H := H1
                   clear H1
                   obtain rfl := Option.some.inj H
                   go_wp2
                   repeat (go_quiet (fail); try go_wp2)
                   go_ret
                   exact ⟨by first | rfl | (simp [errW_none, errW_some] <;> rfl) | (simp [*, errW_none, errW_some] <;> rfl), by repeat (first | (with_reducible first | exact HB.out | apply bwA | apply bwN | apply bwD | refine below_set ?_ GE387.out) | exact HB.out)⟩
                  ·replace c65 := Bool.eq_false_iff.mpr c65
                   subst c65
                   have H1 : (if ((rd_T37 t368 x46_2).f0) = 4 then (if 0 ≤ ((rd_T37 t368 x46_2).f2) then (if ((rd_T37 t368 x46_2).f2) < (t373.length : Int) then (if 0 ≤ ((rd_T37 t368 x46_2).f3) then (if ((rd_T37 t368 x46_2).f3) < (t373.length : Int) then (if (rd t373 x46_2) = (mx (rd t373 ((rd_T37 t368 x46_2).f2)) (rd t373 ((rd_T37 t368 x46_2).f3))) then (laws_FnGuessTruths.l0 kj56 t368 t369 t373 t382 t373 (t373.length : Int) (wrap64 (x46_2 + 1))) else (some false)) else (none)) else (none)) else (none)) else (none)) else (laws_FnGuessTruths.l0 kj56 t368 t369 t373 t382 t373 (t373.length : Int) (wrap64 (x46_2 + 1)))) = some r := by rw [if_neg (show ¬ (false = true) by decide)] at H; exact H
                   clear H
                   have H := H1
                   clear H1
                   by_cases c66 : ((rd_T37 t368 x46_2).f0) = 4
                   ·rw [if_pos c66] at H
                    have c66b0 : (((rd_T37 t368 x46_2).f0) == 4) = true := beq_iff_eq.mpr c66
                    have c66b1 : (((rd_T37 t368 x46_2).f0) != 4) = false := bne_eq_false_iff_eq.mpr c66
                    clear c66
                    by_cases c67 : 0 ≤ ((rd_T37 t368 x46_2).f2)
                    ·rw [if_pos c67] at H
                     have c67b0 : decide (0 ≤ ((rd_T37 t368 x46_2).f2)) = true := decide_eq_true c67
                     clear c67
                     by_cases c68 : ((rd_T37 t368 x46_2).f2) < (t373.length : Int)
                     ·rw [if_pos c68] at H
                      have c68b0 : decide (((rd_T37 t368 x46_2).f2) < (t373.length : Int)) = true := decide_eq_true c68
                      clear c68
                      by_cases c69 : 0 ≤ ((rd_T37 t368 x46_2).f3)
                      ·rw [if_pos c69] at H
                       have c69b0 : decide (0 ≤ ((rd_T37 t368 x46_2).f3)) = true := decide_eq_true c69
                       clear c69
                       by_cases c70 : ((rd_T37 t368 x46_2).f3) < (t373.length : Int)
                       ·rw [if_pos c70] at H
                        have c70b0 : decide (((rd_T37 t368 x46_2).f3) < (t373.length : Int)) = true := decide_eq_true c70
                        clear c70
                        obtain ⟨ji71, hji71⟩ : ∃ j_ : Int, (mx (rd t373 ((rd_T37 t368 x46_2).f2)) (rd t373 ((rd_T37 t368 x46_2).f3))) = j_ := ⟨_, rfl⟩
                        replace H : (if (rd t373 x46_2) = (ji71) then (laws_FnGuessTruths.l0 kj56 t368 t369 t373 t382 t373 (t373.length : Int) (wrap64 (x46_2 + 1))) else (some false)) = some r := by first | (rw [hji71] at H; exact H) | (simp only [hji71] at H ⊢; exact H)
                        have hji71_ : (if (rd t373 ((rd_T37 t368 x46_2).f2)) < (rd t373 ((rd_T37 t368 x46_2).f3)) then (rd t373 ((rd_T37 t368 x46_2).f3)) else (rd t373 ((rd_T37 t368 x46_2).f2))) = ji71 := hji71
                        by_cases c72 : (rd t373 x46_2) = (ji71)
                        ·rw [if_pos c72] at H
                         have c72b0 : ((rd t373 x46_2) == (ji71)) = true := beq_iff_eq.mpr c72
                         have c72b1 : ((rd t373 x46_2) != (ji71)) = false := bne_eq_false_iff_eq.mpr c72
                         clear c72
                         have H' := Aside0.mk H
                         clear H
                         have hcz73_0 : wc.cell? ⟨gb387, 0, none⟩ = some (.int .i64 ((rd_T37 t368 x46_2).f0)) := (blk_cell BK387.out 0).trans rfl
                         have hcz73_1 : wc.cell? ⟨gb387, 1, none⟩ = some (.int .i64 ((rd_T37 t368 x46_2).f1)) := (blk_cell BK387.out 1).trans rfl
                         have hcz73_2 : wc.cell? ⟨gb387, 2, none⟩ = some (.int .i64 ((rd_T37 t368 x46_2).f2)) := (blk_cell BK387.out 2).trans rfl
                         have hcz73_3 : wc.cell? ⟨gb387, 3, none⟩ = some (.int .i64 ((rd_T37 t368 x46_2).f3)) := (blk_cell BK387.out 3).trans rfl
                         have hfz73_0 := blk_frozen BK387.out 0
                         have hfz73_1 := blk_frozen BK387.out 1
                         have hfz73_2 := blk_frozen BK387.out 2
                         have hfz73_3 := blk_frozen BK387.out 3
                         have p393 : 0 ≤ (((rd_T37 t368 x46_2).f2) : Int) := of_decide_eq_true (by first | (with_reducible assumption) | assumption)
                         have q393 : ((rd_T37 t368 x46_2).f2) < (t373.length : Int) := of_decide_eq_true (by first | (with_reducible assumption) | assumption)
                         obtain ⟨ad393, e393, hx393_0⟩ := Kd.at_int (Kd.R_reads' HO_6.out).2.2 ((rd_T37 t368 x46_2).f2) p393 q393
                         obtain rfl : ad385 = ad393 := (by injection e393)
                         replace p393 := eq_true p393
                         replace q393 := eq_true q393
                         have p394 : 0 ≤ (((rd_T37 t368 x46_2).f3) : Int) := of_decide_eq_true (by first | (with_reducible assumption) | assumption)
                         have q394 : ((rd_T37 t368 x46_2).f3) < (t373.length : Int) := of_decide_eq_true (by first | (with_reducible assumption) | assumption)
                         obtain ⟨ad394, e394, hx394_0⟩ := Kd.at_int (Kd.R_reads' HO_6.out).2.2 ((rd_T37 t368 x46_2).f3) p394 q394
                         obtain rfl : ad385 = ad394 := (by injection e394)
                         replace p394 := eq_true p394
                         replace q394 := eq_true q394
                         go_wp2
                         repeat (go_quiet (fail); try go_wp2)
                         go_roundg kj56
                         case measure => have := HJ4.out; have := HK2.out; have := HJ29.out; have := HJ35.out; have := HJ56.out; omega
                         case rel => exact ⟨(wrap64 (x46_2 + 1)), (by first | rfl | (simp; done) | (simp [*]; done)), H', ⟨by have := HJ4.out; have := HK2.out; have := HJ29.out; have := HJ35.out; have := HJ56.out; omega⟩, ⟨by (with_reducible repeat (first | apply Kd.R_alloc | apply Kd.R_drewN | apply Kd.R_drew)); exact Kd.R_mono HO_3.out (fun _ hk => trivial)⟩, ⟨by (with_reducible repeat (first | apply Kd.R_alloc | apply Kd.R_drewN | apply Kd.R_drew)); exact HO_6.out⟩, ⟨by (with_reducible repeat (first | apply Kd.R_alloc | apply Kd.R_drewN | apply Kd.R_drew)); exact HO_7.out⟩, ⟨by (with_reducible repeat (first | apply Kd.R_alloc | apply Kd.R_drewN | apply Kd.R_drew)); exact HO_44.out⟩, ⟨by repeat (first | (with_reducible first | exact HB.out | apply bwA | apply bwN | apply bwD | refine below_set ?_ GE387.out) | exact HB.out)⟩⟩
                        ·rw [if_neg c72] at H
                         have c72b0 : ((rd t373 x46_2) == (ji71)) = false := beq_eq_false_iff_ne.mpr c72
                         have c72b1 : ((rd t373 x46_2) != (ji71)) = true := bne_iff_ne.mpr c72
                         obtain rfl := Option.some.inj H
                         have hcz74_0 : wc.cell? ⟨gb387, 0, none⟩ = some (.int .i64 ((rd_T37 t368 x46_2).f0)) := (blk_cell BK387.out 0).trans rfl
                         have hcz74_1 : wc.cell? ⟨gb387, 1, none⟩ = some (.int .i64 ((rd_T37 t368 x46_2).f1)) := (blk_cell BK387.out 1).trans rfl
                         have hcz74_2 : wc.cell? ⟨gb387, 2, none⟩ = some (.int .i64 ((rd_T37 t368 x46_2).f2)) := (blk_cell BK387.out 2).trans rfl
                         have hcz74_3 : wc.cell? ⟨gb387, 3, none⟩ = some (.int .i64 ((rd_T37 t368 x46_2).f3)) := (blk_cell BK387.out 3).trans rfl
                         have hfz74_0 := blk_frozen BK387.out 0
                         have hfz74_1 := blk_frozen BK387.out 1
                         have hfz74_2 := blk_frozen BK387.out 2
                         have hfz74_3 := blk_frozen BK387.out 3
                         have p393 : 0 ≤ (((rd_T37 t368 x46_2).f2) : Int) := of_decide_eq_true (by first | (with_reducible assumption) | assumption)
                         have q393 : ((rd_T37 t368 x46_2).f2) < (t373.length : Int) := of_decide_eq_true (by first | (with_reducible assumption) | assumption)
                         obtain ⟨ad393, e393, hx393_0⟩ := Kd.at_int (Kd.R_reads' HO_6.out).2.2 ((rd_T37 t368 x46_2).f2) p393 q393
                         obtain rfl : ad385 = ad393 := (by injection e393)
                         replace p393 := eq_true p393
                         replace q393 := eq_true q393
                         have p394 : 0 ≤ (((rd_T37 t368 x46_2).f3) : Int) := of_decide_eq_true (by first | (with_reducible assumption) | assumption)
                         have q394 : ((rd_T37 t368 x46_2).f3) < (t373.length : Int) := of_decide_eq_true (by first | (with_reducible assumption) | assumption)
                         obtain ⟨ad394, e394, hx394_0⟩ := Kd.at_int (Kd.R_reads' HO_6.out).2.2 ((rd_T37 t368 x46_2).f3) p394 q394
                         obtain rfl : ad385 = ad394 := (by injection e394)
                         replace p394 := eq_true p394
                         replace q394 := eq_true q394
                         go_wp2
                         repeat (go_quiet (fail); try go_wp2)
                         go_ret
                         exact ⟨by first | rfl | (simp [errW_none, errW_some] <;> rfl) | (simp only [← hji71]; first | rfl | (simp [errW_none, errW_some] <;> rfl)) | (simp [*, errW_none, errW_some] <;> rfl), by repeat (first | (with_reducible first | exact HB.out | apply bwA | apply bwN | apply bwD | refine below_set ?_ GE387.out) | exact HB.out)⟩
                       ·rw [if_neg c70] at H
                        exact absurd H (by simp)
                      ·rw [if_neg c69] at H
                       exact absurd H (by simp)
                     ·rw [if_neg c68] at H
                      exact absurd H (by simp)
                    ·rw [if_neg c67] at H
                     exact absurd H (by simp)
                   ·rw [if_neg c66] at H
                    have c66b0 : (((rd_T37 t368 x46_2).f0) == 4) = false := beq_eq_false_iff_ne.mpr c66
                    have c66b1 : (((rd_T37 t368 x46_2).f0) != 4) = true := bne_iff_ne.mpr c66
                    have H' := Aside0.mk H
                    clear H
                    have hcz75_0 : wc.cell? ⟨gb387, 0, none⟩ = some (.int .i64 ((rd_T37 t368 x46_2).f0)) := (blk_cell BK387.out 0).trans rfl
                    have hcz75_1 : wc.cell? ⟨gb387, 1, none⟩ = some (.int .i64 ((rd_T37 t368 x46_2).f1)) := (blk_cell BK387.out 1).trans rfl
                    have hcz75_2 : wc.cell? ⟨gb387, 2, none⟩ = some (.int .i64 ((rd_T37 t368 x46_2).f2)) := (blk_cell BK387.out 2).trans rfl
                    have hcz75_3 : wc.cell? ⟨gb387, 3, none⟩ = some (.int .i64 ((rd_T37 t368 x46_2).f3)) := (blk_cell BK387.out 3).trans rfl
                    have hfz75_0 := blk_frozen BK387.out 0
                    have hfz75_1 := blk_frozen BK387.out 1
                    have hfz75_2 := blk_frozen BK387.out 2
                    have hfz75_3 := blk_frozen BK387.out 3
                    go_wp2
                    repeat (go_quiet (fail); try go_wp2)
                    go_roundg kj56
                    case measure => have := HJ4.out; have := HK2.out; have := HJ29.out; have := HJ35.out; have := HJ56.out; omega
                    case rel => exact ⟨(wrap64 (x46_2 + 1)), (by first | rfl | (simp; done) | (simp [*]; done)), H', ⟨by have := HJ4.out; have := HK2.out; have := HJ29.out; have := HJ35.out; have := HJ56.out; omega⟩, ⟨by (with_reducible repeat (first | apply Kd.R_alloc | apply Kd.R_drewN | apply Kd.R_drew)); exact Kd.R_mono HO_3.out (fun _ hk => trivial)⟩, ⟨by (with_reducible repeat (first | apply Kd.R_alloc | apply Kd.R_drewN | apply Kd.R_drew)); exact HO_6.out⟩, ⟨by (with_reducible repeat (first | apply Kd.R_alloc | apply Kd.R_drewN | apply Kd.R_drew)); exact HO_7.out⟩, ⟨by (with_reducible repeat (first | apply Kd.R_alloc | apply Kd.R_drewN | apply Kd.R_drew)); exact HO_44.out⟩, ⟨by repeat (first | (with_reducible first | exact HB.out | apply bwA | apply bwN | apply bwD | refine below_set ?_ GE387.out) | exact HB.out)⟩⟩
          ·rw [if_neg c29] at H
           exact absurd H (by simp)
         ·rw [if_neg c28] at H
          exact absurd H (by simp)
        ·rw [if_neg c27] at H
         exact absurd H (by simp)
       ·rw [if_neg c26] at H
        have c26b0 : decide (x46_2 < (t373.length : Int)) = false := decide_eq_false c26
        clear c26
        by_cases c76 : (t373.length : Int) = 0
        ·rw [if_pos c76] at H
         have c76b0 : ((t373.length : Int) == 0) = true := beq_iff_eq.mpr c76
         have c76b1 : ((t373.length : Int) != 0) = false := bne_eq_false_iff_eq.mpr c76
         clear c76
         obtain rfl := Option.some.inj H
         go_wp2
         repeat (go_quiet (fail); try go_wp2)
         go_ret
         exact ⟨by first | rfl | (simp [errW_none, errW_some] <;> rfl) | (simp [*, errW_none, errW_some] <;> rfl), by repeat (first | (with_reducible first | exact HB.out | apply bwA | apply bwN | apply bwD) | exact HB.out)⟩
        ·rw [if_neg c76] at H
         have c76b0 : ((t373.length : Int) == 0) = false := beq_eq_false_iff_ne.mpr c76
         have c76b1 : ((t373.length : Int) != 0) = true := bne_iff_ne.mpr c76
         have c76b2 : ¬ (t373 = []) := fun h_ => c76 (by rw [h_]; rfl)
         by_cases c77 : (t373.length : Int) = (t368.length : Int)
         ·rw [if_pos c77] at H
          have c77b0 : ((t373.length : Int) == (t368.length : Int)) = true := beq_iff_eq.mpr c77
          have c77b1 : ((t373.length : Int) != (t368.length : Int)) = false := bne_eq_false_iff_eq.mpr c77
          have c77b2 : (t373.length == t368.length) = true := by first | simpa using c77 | (simp at c77 ⊢; omega)
          clear c77
          obtain rfl := Option.some.inj H
          obtain ⟨Ao78, co78, eo78⟩ := Kd.R_slice HO_7.out
          subst eo78
          go_wp2
          repeat (go_quiet (fail); try go_wp2)
          go_ret
          exact ⟨by first | rfl | (simp [errW_none, errW_some] <;> rfl) | (simp [*, errW_none, errW_some] <;> rfl), by repeat (first | (with_reducible first | exact HB.out | apply bwA | apply bwN | apply bwD) | exact HB.out)⟩
         ·rw [if_neg c77] at H
          have c77b0 : ((t373.length : Int) == (t368.length : Int)) = false := beq_eq_false_iff_ne.mpr c77
          have c77b1 : ((t373.length : Int) != (t368.length : Int)) = true := bne_iff_ne.mpr c77
          have c77b2 : (t373.length == t368.length) = false := by first | simpa using c77 | (simp at c77 ⊢; omega)
          obtain rfl := Option.some.inj H
          go_wp2
          repeat (go_quiet (fail); try go_wp2)
          go_ret
          exact ⟨by first | rfl | (simp [errW_none, errW_some] <;> rfl) | (simp [*, errW_none, errW_some] <;> rfl), by repeat (first | (with_reducible first | exact HB.out | apply bwA | apply bwN | apply bwD) | exact HB.out)⟩

/-- THE ONE PURE STATEMENT of laws_FnGuessTruths: yours. -/
def laws_FnGuessTruths.Pure : Prop := ∀ (l0 : List Int), l0.length ≤ maxLen → l0.length * 1 ≤ 140737488351232 → (∀ x ∈ l0, (Lit.int .u8 x).wf = true) → ∃ k, laws_FnGuessTruths.f k l0 = some true
theorem laws_FnGuessTruths.walk (P : laws_FnGuessTruths.Pure) (a0 : Option Addr) (len0 cap0 : Nat) (z0 : List Int) (w : World) (w0 : (a0 = none ∧ len0 = 0 ∧ cap0 = 0 ∧ z0 = []) ∨ ∃ x, a0 = some x ∧ len0 ≤ cap0 ∧ cap0 ≤ maxLen ∧ z0.length = cap0 ∧ (∀ i, i < z0.length → w.cell? (x.add i) = some (.int .u8 (z0.getD i 0))) ∧ ∀ n ∈ z0, (Lit.int .u8 n).wf = true) (y0 : len0 * 1 ≤ 140737488351232) :
  Calls Try.prog 6 #[.slice a0 len0 cap0] w fun e w' => e = .returned (.bool true) ∧ Below w.heap.size w w' := by
 obtain ⟨l0, rfl, hr0, hm0, hw0, hc0⟩ := ReadsInt.ofRowC w0
 obtain ⟨k, h⟩ := P l0 hm0 y0 hw0
 refine (laws_FnGuessTruths.calls k _ _ l0 true w (Kd.C_of_reads (d := (0 : Int)) (h1 := fun _ => rfl) hr0) hc0 h).mono ?_
 rintro e w' ⟨rfl, hd⟩
 exact ⟨rfl, hd⟩

end Go.Proofs.Ytdigdhckbhlkmaa.QFnGuessTruths
