-- Written by a program of this session (mk.py). Lean checks it.
import Derived.Test.YtkfmgfdbdgjfiaaQFnForcedx0
import Derived.Test.YtkfmgfdbdgjfiaaQFnForcedx1
import Derived.Test.YtkfmgfdbdgjfiaaQFnForcedx2
import Derived.Test.YtkfmgfdbdgjfiaaQFnForcedx3
import Derived.Test.YtkfmgfdbdgjfiaaQFnForcedx4
import Derived.Test.YtkfmgfdbdgjfiaaQFnForcedx8
import Derived.Test.YtkfmgfdbdgjfiaaQFnForcedx9
namespace Go.Proofs.Ytkfmgfdbdgjfiaa.QFnForced
open Go.RowKit Go.Proofs.YtkfmgfdbdgjfiaaW.PrintWords Go.Proofs.YtkfmgfdbdgjfiaaW.PrintLast Go.Proofs.YtkfmgfdbdgjfiaaW.PrintMore
attribute [local go_sem] max2_int min2_int max_two min_two max_three min_three max_four min_four   -- for this text's walks alone
set_option linter.unusedVariables false
set_option linter.unusedSimpArgs false

/-! ### laws_FnForced: function 4 -/
mutual
def laws_FnForced.j0 : Nat → List Int → List Int → Bool → Bool → Int → List (List Int) → Option (Bool)
 | 0, _, _, _, _, _, _ => none
 | k + 1, x4, x5, x6, x52, x339000, x339001 => if x52 = true then (some false) else ((spec_ClausesValid.f k x339000 x339001).bind fun t350 => (if t350 = true then ((spec_ClauseValid.f k x4 x339000).bind fun t351 => (laws_FnForced.j1 k x4 x5 x6 (!t351) x339000 x339001)) else (laws_FnForced.j1 k x4 x5 x6 true x339000 x339001)))
def laws_FnForced.j1 : Nat → List Int → List Int → Bool → Bool → Int → List (List Int) → Option (Bool)
 | 0, _, _, _, _, _, _ => none
 | k + 1, x4, x5, x6, x62, x339000, x339001 => if x62 = true then (if x6 = true then (some false) else (some ((x5.length : Int) == 0))) else (if 0 ≤ x339000 then (laws_FnForced.l0 k x4 x5 x6 (shl .i64 1 x339000) 0 x339000 x339001) else (none))
def laws_FnForced.l0 : Nat → List Int → List Int → Bool → Int → Int → Int → List (List Int) → Option (Bool)
 | 0, _, _, _, _, _, _, _ => none
 | k + 1, x4, x5, x6, x72, x73, x339000, x339001 => if x73 < x72 then (laws_FnForced.l1 k x4 x5 x6 x73 (([] : List Int)) x72 x73 x339000 0 x339000 x339001) else (some true)
def laws_FnForced.l1 : Nat → List Int → List Int → Bool → Int → List Int → Int → Int → Int → Int → Int → List (List Int) → Option (Bool)
 | 0, _, _, _, _, _, _, _, _, _, _, _ => none
 | k + 1, x4, x5, x6, x9, x10, x72, x73, x78, x79, x339000, x339001 => if x79 < x78 then (if 0 ≤ x79 then (if x10.length < 17592186044416 then (laws_FnForced.l1 k x4 x5 x6 x9 (x10 ++ [Int.tmod (shr .i64 x9 x79) 2]) x72 x73 x78 (wrap64 (x79 + 1)) x339000 x339001) else (none)) else (none)) else ((impl_TrueIn.f k x339000 x339001 x10).bind fun t358 => (laws_FnForced.l2 k x4 x5 x6 x10 t358 x72 x73 x4 (x4.length : Int) 0 x339000 x339001))
def laws_FnForced.l2 : Nat → List Int → List Int → Bool → List Int → Bool → Int → Int → List Int → Int → Int → Int → List (List Int) → Option (Bool)
 | 0, _, _, _, _, _, _, _, _, _, _, _, _ => none
 | k + 1, x4, x5, x6, x10, x12, x72, x73, x93, x94, x95, x339000, x339001 => if x95 < x94 then (if 0 ≤ x95 then (if x95 < (x93.length : Int) then (if x12 = true then (if 0 ≤ (wrap64 ((mx (rd x93 x95) (wrap64 (-(rd x93 x95)))) - 1)) then (if (wrap64 ((mx (rd x93 x95) (wrap64 (-(rd x93 x95)))) - 1)) < (x10.length : Int) then (laws_FnForced.l2 k x4 x5 x6 x10 ((decide ((rd x93 x95) > 0)) == ((rd x10 (wrap64 ((mx (rd x93 x95) (wrap64 (-(rd x93 x95)))) - 1))) == 1)) x72 x73 x93 x94 (wrap64 (x95 + 1)) x339000 x339001) else (none)) else (none)) else (laws_FnForced.l2 k x4 x5 x6 x10 false x72 x73 x93 x94 (wrap64 (x95 + 1)) x339000 x339001)) else (none)) else (none)) else (if x12 = true then (laws_FnForced.j5 k x4 x5 x6 x10 x12 x72 x73 (!x6) x339000 x339001) else (laws_FnForced.j5 k x4 x5 x6 x10 x12 x72 x73 false x339000 x339001))
def laws_FnForced.j5 : Nat → List Int → List Int → Bool → List Int → Bool → Int → Int → Bool → Int → List (List Int) → Option (Bool)
 | 0, _, _, _, _, _, _, _, _, _, _ => none
 | k + 1, x4, x5, x6, x10, x12, x72, x73, x119, x339000, x339001 => if x119 = true then (some false) else (laws_FnForced.l3 k x4 x5 x6 x10 x12 x72 x73 x5 (x5.length : Int) 0 x339000 x339001)
def laws_FnForced.l3 : Nat → List Int → List Int → Bool → List Int → Bool → Int → Int → List Int → Int → Int → Int → List (List Int) → Option (Bool)
 | 0, _, _, _, _, _, _, _, _, _, _, _, _ => none
 | k + 1, x4, x5, x6, x10, x12, x72, x73, x120, x121, x122, x339000, x339001 => if x122 < x121 then (if 0 ≤ x122 then (if x122 < (x120.length : Int) then (if x12 = true then (if 0 ≤ (wrap64 ((mx (rd x120 x122) (wrap64 (-(rd x120 x122)))) - 1)) then (if (wrap64 ((mx (rd x120 x122) (wrap64 (-(rd x120 x122)))) - 1)) < (x10.length : Int) then (if ((decide ((rd x120 x122) > 0)) != ((rd x10 (wrap64 ((mx (rd x120 x122) (wrap64 (-(rd x120 x122)))) - 1))) == 1)) = true then (some false) else (laws_FnForced.l3 k x4 x5 x6 x10 x12 x72 x73 x120 x121 (wrap64 (x122 + 1)) x339000 x339001)) else (none)) else (none)) else (laws_FnForced.l3 k x4 x5 x6 x10 x12 x72 x73 x120 x121 (wrap64 (x122 + 1)) x339000 x339001)) else (none)) else (none)) else (laws_FnForced.l0 k x4 x5 x6 x72 (wrap64 (x73 + 1)) x339000 x339001)
end
def laws_FnForced.f (k : Nat) (l0 : List Int) : Option (Bool) := if (l0.length : Int) > 1048576 then (some true) else ((spec_DrawForced.f k l0).bind fun bt331 => ((impl_Forced.f k bt331.1 bt331.2.1 bt331.2.2).bind fun bt339 => ((spec_Forced.f k bt331.1 bt331.2.1 bt331.2.2).bind fun bt343 => (if (bt339.2 != bt343.2) = true then (laws_FnForced.j0 k bt331.2.2 bt339.1 bt339.2 true bt331.1 bt331.2.1) else ((laws_wcInts.f k bt339.1 bt343.1).bind fun t347 => (if t347 = true then ((impl_ClausesValid.f k bt331.1 bt331.2.1).bind fun t348 => ((spec_ClausesValid.f k bt331.1 bt331.2.1).bind fun t349 => (laws_FnForced.j0 k bt331.2.2 bt339.1 bt339.2 (t348 != t349) bt331.1 bt331.2.1))) else (laws_FnForced.j0 k bt331.2.2 bt339.1 bt339.2 true bt331.1 bt331.2.1)))))))
theorem laws_FnForced.mono_l : ∀ k, (∀ y0 y1 y2 y3 y4 y5, LeO (laws_FnForced.j0 k y0 y1 y2 y3 y4 y5) (laws_FnForced.j0 (k + 1) y0 y1 y2 y3 y4 y5)) ∧ (∀ y0 y1 y2 y3 y4 y5, LeO (laws_FnForced.j1 k y0 y1 y2 y3 y4 y5) (laws_FnForced.j1 (k + 1) y0 y1 y2 y3 y4 y5)) ∧ (∀ y0 y1 y2 y3 y4 y5 y6, LeO (laws_FnForced.l0 k y0 y1 y2 y3 y4 y5 y6) (laws_FnForced.l0 (k + 1) y0 y1 y2 y3 y4 y5 y6)) ∧ (∀ y0 y1 y2 y3 y4 y5 y6 y7 y8 y9 y10, LeO (laws_FnForced.l1 k y0 y1 y2 y3 y4 y5 y6 y7 y8 y9 y10) (laws_FnForced.l1 (k + 1) y0 y1 y2 y3 y4 y5 y6 y7 y8 y9 y10)) ∧ (∀ y0 y1 y2 y3 y4 y5 y6 y7 y8 y9 y10 y11, LeO (laws_FnForced.l2 k y0 y1 y2 y3 y4 y5 y6 y7 y8 y9 y10 y11) (laws_FnForced.l2 (k + 1) y0 y1 y2 y3 y4 y5 y6 y7 y8 y9 y10 y11)) ∧ (∀ y0 y1 y2 y3 y4 y5 y6 y7 y8 y9, LeO (laws_FnForced.j5 k y0 y1 y2 y3 y4 y5 y6 y7 y8 y9) (laws_FnForced.j5 (k + 1) y0 y1 y2 y3 y4 y5 y6 y7 y8 y9)) ∧ (∀ y0 y1 y2 y3 y4 y5 y6 y7 y8 y9 y10 y11, LeO (laws_FnForced.l3 k y0 y1 y2 y3 y4 y5 y6 y7 y8 y9 y10 y11) (laws_FnForced.l3 (k + 1) y0 y1 y2 y3 y4 y5 y6 y7 y8 y9 y10 y11))
 | 0 => ⟨fun _ _ _ _ _ _ r h => by simp [laws_FnForced.j0] at h, fun _ _ _ _ _ _ r h => by simp [laws_FnForced.j1] at h, fun _ _ _ _ _ _ _ r h => by simp [laws_FnForced.l0] at h, fun _ _ _ _ _ _ _ _ _ _ _ r h => by simp [laws_FnForced.l1] at h, fun _ _ _ _ _ _ _ _ _ _ _ _ r h => by simp [laws_FnForced.l2] at h, fun _ _ _ _ _ _ _ _ _ _ r h => by simp [laws_FnForced.j5] at h, fun _ _ _ _ _ _ _ _ _ _ _ _ r h => by simp [laws_FnForced.l3] at h⟩
 | k + 1 => by
  obtain ⟨ih0, ih1, ih2, ih3, ih4, ih5, ih6⟩ := laws_FnForced.mono_l k
  refine ⟨?_, ?_, ?_, ?_, ?_, ?_, ?_⟩
  ·intro y0 y1 y2 y3 y4 y5
   unfold laws_FnForced.j0
   repeat' first
   | (with_reducible exact ih0 _ _ _ _ _ _)
   | (with_reducible exact ih1 _ _ _ _ _ _)
   | (with_reducible exact ih2 _ _ _ _ _ _ _)
   | (with_reducible exact ih3 _ _ _ _ _ _ _ _ _ _ _)
   | (with_reducible exact ih4 _ _ _ _ _ _ _ _ _ _ _ _)
   | (with_reducible exact ih5 _ _ _ _ _ _ _ _ _ _)
   | (with_reducible exact ih6 _ _ _ _ _ _ _ _ _ _ _ _)
   | (with_reducible exact impl_ClausesValid.mono _ _ _)
   | (with_reducible exact impl_Forced.mono _ _ _ _)
   | (with_reducible exact impl_TrueIn.mono _ _ _ _)
   | (with_reducible exact laws_wcInts.mono _ _ _)
   | (with_reducible exact spec_ClauseValid.mono _ _ _)
   | (with_reducible exact spec_ClausesValid.mono _ _ _)
   | (with_reducible exact spec_DrawForced.mono _ _)
   | (with_reducible exact spec_Forced.mono _ _ _ _)
   | (with_reducible exact LeO.refl _)
   | (with_reducible exact LeO.none _)
   | (with_reducible refine LeO.ite ?_ ?_)
   | (with_reducible refine LeO.bind ?_ (fun _ => ?_))
   | exact ih0 _ _ _ _ _ _
   | exact ih1 _ _ _ _ _ _
   | exact ih2 _ _ _ _ _ _ _
   | exact ih3 _ _ _ _ _ _ _ _ _ _ _
   | exact ih4 _ _ _ _ _ _ _ _ _ _ _ _
   | exact ih5 _ _ _ _ _ _ _ _ _ _
   | exact ih6 _ _ _ _ _ _ _ _ _ _ _ _
   | exact impl_ClausesValid.mono _ _ _
   | exact impl_Forced.mono _ _ _ _
   | exact impl_TrueIn.mono _ _ _ _
   | exact laws_wcInts.mono _ _ _
   | exact spec_ClauseValid.mono _ _ _
   | exact spec_ClausesValid.mono _ _ _
   | exact spec_DrawForced.mono _ _
   | exact spec_Forced.mono _ _ _ _
   | exact LeO.none _
   | refine LeO.ite ?_ ?_
   | refine LeO.bind ?_ (fun _ => ?_)
  ·intro y0 y1 y2 y3 y4 y5
   unfold laws_FnForced.j1
   repeat' first
   | (with_reducible exact ih0 _ _ _ _ _ _)
   | (with_reducible exact ih1 _ _ _ _ _ _)
   | (with_reducible exact ih2 _ _ _ _ _ _ _)
   | (with_reducible exact ih3 _ _ _ _ _ _ _ _ _ _ _)
   | (with_reducible exact ih4 _ _ _ _ _ _ _ _ _ _ _ _)
   | (with_reducible exact ih5 _ _ _ _ _ _ _ _ _ _)
   | (with_reducible exact ih6 _ _ _ _ _ _ _ _ _ _ _ _)
   | (with_reducible exact impl_ClausesValid.mono _ _ _)
   | (with_reducible exact impl_Forced.mono _ _ _ _)
   | (with_reducible exact impl_TrueIn.mono _ _ _ _)
   | (with_reducible exact laws_wcInts.mono _ _ _)
   | (with_reducible exact spec_ClauseValid.mono _ _ _)
   | (with_reducible exact spec_ClausesValid.mono _ _ _)
   | (with_reducible exact spec_DrawForced.mono _ _)
   | (with_reducible exact spec_Forced.mono _ _ _ _)
   | (with_reducible exact LeO.refl _)
   | (with_reducible exact LeO.none _)
   | (with_reducible refine LeO.ite ?_ ?_)
   | (with_reducible refine LeO.bind ?_ (fun _ => ?_))
   | exact ih0 _ _ _ _ _ _
   | exact ih1 _ _ _ _ _ _
   | exact ih2 _ _ _ _ _ _ _
   | exact ih3 _ _ _ _ _ _ _ _ _ _ _
   | exact ih4 _ _ _ _ _ _ _ _ _ _ _ _
   | exact ih5 _ _ _ _ _ _ _ _ _ _
   | exact ih6 _ _ _ _ _ _ _ _ _ _ _ _
   | exact impl_ClausesValid.mono _ _ _
   | exact impl_Forced.mono _ _ _ _
   | exact impl_TrueIn.mono _ _ _ _
   | exact laws_wcInts.mono _ _ _
   | exact spec_ClauseValid.mono _ _ _
   | exact spec_ClausesValid.mono _ _ _
   | exact spec_DrawForced.mono _ _
   | exact spec_Forced.mono _ _ _ _
   | exact LeO.none _
   | refine LeO.ite ?_ ?_
   | refine LeO.bind ?_ (fun _ => ?_)
  ·intro y0 y1 y2 y3 y4 y5 y6
   unfold laws_FnForced.l0
   repeat' first
   | (with_reducible exact ih0 _ _ _ _ _ _)
   | (with_reducible exact ih1 _ _ _ _ _ _)
   | (with_reducible exact ih2 _ _ _ _ _ _ _)
   | (with_reducible exact ih3 _ _ _ _ _ _ _ _ _ _ _)
   | (with_reducible exact ih4 _ _ _ _ _ _ _ _ _ _ _ _)
   | (with_reducible exact ih5 _ _ _ _ _ _ _ _ _ _)
   | (with_reducible exact ih6 _ _ _ _ _ _ _ _ _ _ _ _)
   | (with_reducible exact impl_ClausesValid.mono _ _ _)
   | (with_reducible exact impl_Forced.mono _ _ _ _)
   | (with_reducible exact impl_TrueIn.mono _ _ _ _)
   | (with_reducible exact laws_wcInts.mono _ _ _)
   | (with_reducible exact spec_ClauseValid.mono _ _ _)
   | (with_reducible exact spec_ClausesValid.mono _ _ _)
   | (with_reducible exact spec_DrawForced.mono _ _)
   | (with_reducible exact spec_Forced.mono _ _ _ _)
   | (with_reducible exact LeO.refl _)
   | (with_reducible exact LeO.none _)
   | (with_reducible refine LeO.ite ?_ ?_)
   | (with_reducible refine LeO.bind ?_ (fun _ => ?_))
   | exact ih0 _ _ _ _ _ _
   | exact ih1 _ _ _ _ _ _
   | exact ih2 _ _ _ _ _ _ _
   | exact ih3 _ _ _ _ _ _ _ _ _ _ _
   | exact ih4 _ _ _ _ _ _ _ _ _ _ _ _
   | exact ih5 _ _ _ _ _ _ _ _ _ _
   | exact ih6 _ _ _ _ _ _ _ _ _ _ _ _
   | exact impl_ClausesValid.mono _ _ _
   | exact impl_Forced.mono _ _ _ _
   | exact impl_TrueIn.mono _ _ _ _
   | exact laws_wcInts.mono _ _ _
   | exact spec_ClauseValid.mono _ _ _
   | exact spec_ClausesValid.mono _ _ _
   | exact spec_DrawForced.mono _ _
   | exact spec_Forced.mono _ _ _ _
   | exact LeO.none _
   | refine LeO.ite ?_ ?_
   | refine LeO.bind ?_ (fun _ => ?_)
  ·intro y0 y1 y2 y3 y4 y5 y6 y7 y8 y9 y10
   unfold laws_FnForced.l1
   repeat' first
   | (with_reducible exact ih0 _ _ _ _ _ _)
   | (with_reducible exact ih1 _ _ _ _ _ _)
   | (with_reducible exact ih2 _ _ _ _ _ _ _)
   | (with_reducible exact ih3 _ _ _ _ _ _ _ _ _ _ _)
   | (with_reducible exact ih4 _ _ _ _ _ _ _ _ _ _ _ _)
   | (with_reducible exact ih5 _ _ _ _ _ _ _ _ _ _)
   | (with_reducible exact ih6 _ _ _ _ _ _ _ _ _ _ _ _)
   | (with_reducible exact impl_ClausesValid.mono _ _ _)
   | (with_reducible exact impl_Forced.mono _ _ _ _)
   | (with_reducible exact impl_TrueIn.mono _ _ _ _)
   | (with_reducible exact laws_wcInts.mono _ _ _)
   | (with_reducible exact spec_ClauseValid.mono _ _ _)
   | (with_reducible exact spec_ClausesValid.mono _ _ _)
   | (with_reducible exact spec_DrawForced.mono _ _)
   | (with_reducible exact spec_Forced.mono _ _ _ _)
   | (with_reducible exact LeO.refl _)
   | (with_reducible exact LeO.none _)
   | (with_reducible refine LeO.ite ?_ ?_)
   | (with_reducible refine LeO.bind ?_ (fun _ => ?_))
   | exact ih0 _ _ _ _ _ _
   | exact ih1 _ _ _ _ _ _
   | exact ih2 _ _ _ _ _ _ _
   | exact ih3 _ _ _ _ _ _ _ _ _ _ _
   | exact ih4 _ _ _ _ _ _ _ _ _ _ _ _
   | exact ih5 _ _ _ _ _ _ _ _ _ _
   | exact ih6 _ _ _ _ _ _ _ _ _ _ _ _
   | exact impl_ClausesValid.mono _ _ _
   | exact impl_Forced.mono _ _ _ _
   | exact impl_TrueIn.mono _ _ _ _
   | exact laws_wcInts.mono _ _ _
   | exact spec_ClauseValid.mono _ _ _
   | exact spec_ClausesValid.mono _ _ _
   | exact spec_DrawForced.mono _ _
   | exact spec_Forced.mono _ _ _ _
   | exact LeO.none _
   | refine LeO.ite ?_ ?_
   | refine LeO.bind ?_ (fun _ => ?_)
  ·intro y0 y1 y2 y3 y4 y5 y6 y7 y8 y9 y10 y11
   unfold laws_FnForced.l2
   repeat' first
   | (with_reducible exact ih0 _ _ _ _ _ _)
   | (with_reducible exact ih1 _ _ _ _ _ _)
   | (with_reducible exact ih2 _ _ _ _ _ _ _)
   | (with_reducible exact ih3 _ _ _ _ _ _ _ _ _ _ _)
   | (with_reducible exact ih4 _ _ _ _ _ _ _ _ _ _ _ _)
   | (with_reducible exact ih5 _ _ _ _ _ _ _ _ _ _)
   | (with_reducible exact ih6 _ _ _ _ _ _ _ _ _ _ _ _)
   | (with_reducible exact impl_ClausesValid.mono _ _ _)
   | (with_reducible exact impl_Forced.mono _ _ _ _)
   | (with_reducible exact impl_TrueIn.mono _ _ _ _)
   | (with_reducible exact laws_wcInts.mono _ _ _)
   | (with_reducible exact spec_ClauseValid.mono _ _ _)
   | (with_reducible exact spec_ClausesValid.mono _ _ _)
   | (with_reducible exact spec_DrawForced.mono _ _)
   | (with_reducible exact spec_Forced.mono _ _ _ _)
   | (with_reducible exact LeO.refl _)
   | (with_reducible exact LeO.none _)
   | (with_reducible refine LeO.ite ?_ ?_)
   | (with_reducible refine LeO.bind ?_ (fun _ => ?_))
   | exact ih0 _ _ _ _ _ _
   | exact ih1 _ _ _ _ _ _
   | exact ih2 _ _ _ _ _ _ _
   | exact ih3 _ _ _ _ _ _ _ _ _ _ _
   | exact ih4 _ _ _ _ _ _ _ _ _ _ _ _
   | exact ih5 _ _ _ _ _ _ _ _ _ _
   | exact ih6 _ _ _ _ _ _ _ _ _ _ _ _
   | exact impl_ClausesValid.mono _ _ _
   | exact impl_Forced.mono _ _ _ _
   | exact impl_TrueIn.mono _ _ _ _
   | exact laws_wcInts.mono _ _ _
   | exact spec_ClauseValid.mono _ _ _
   | exact spec_ClausesValid.mono _ _ _
   | exact spec_DrawForced.mono _ _
   | exact spec_Forced.mono _ _ _ _
   | exact LeO.none _
   | refine LeO.ite ?_ ?_
   | refine LeO.bind ?_ (fun _ => ?_)
  ·intro y0 y1 y2 y3 y4 y5 y6 y7 y8 y9
   unfold laws_FnForced.j5
   repeat' first
   | (with_reducible exact ih0 _ _ _ _ _ _)
   | (with_reducible exact ih1 _ _ _ _ _ _)
   | (with_reducible exact ih2 _ _ _ _ _ _ _)
   | (with_reducible exact ih3 _ _ _ _ _ _ _ _ _ _ _)
   | (with_reducible exact ih4 _ _ _ _ _ _ _ _ _ _ _ _)
   | (with_reducible exact ih5 _ _ _ _ _ _ _ _ _ _)
   | (with_reducible exact ih6 _ _ _ _ _ _ _ _ _ _ _ _)
   | (with_reducible exact impl_ClausesValid.mono _ _ _)
   | (with_reducible exact impl_Forced.mono _ _ _ _)
   | (with_reducible exact impl_TrueIn.mono _ _ _ _)
   | (with_reducible exact laws_wcInts.mono _ _ _)
   | (with_reducible exact spec_ClauseValid.mono _ _ _)
   | (with_reducible exact spec_ClausesValid.mono _ _ _)
   | (with_reducible exact spec_DrawForced.mono _ _)
   | (with_reducible exact spec_Forced.mono _ _ _ _)
   | (with_reducible exact LeO.refl _)
   | (with_reducible exact LeO.none _)
   | (with_reducible refine LeO.ite ?_ ?_)
   | (with_reducible refine LeO.bind ?_ (fun _ => ?_))
   | exact ih0 _ _ _ _ _ _
   | exact ih1 _ _ _ _ _ _
   | exact ih2 _ _ _ _ _ _ _
   | exact ih3 _ _ _ _ _ _ _ _ _ _ _
   | exact ih4 _ _ _ _ _ _ _ _ _ _ _ _
   | exact ih5 _ _ _ _ _ _ _ _ _ _
   | exact ih6 _ _ _ _ _ _ _ _ _ _ _ _
   | exact impl_ClausesValid.mono _ _ _
   | exact impl_Forced.mono _ _ _ _
   | exact impl_TrueIn.mono _ _ _ _
   | exact laws_wcInts.mono _ _ _
   | exact spec_ClauseValid.mono _ _ _
   | exact spec_ClausesValid.mono _ _ _
   | exact spec_DrawForced.mono _ _
   | exact spec_Forced.mono _ _ _ _
   | exact LeO.none _
   | refine LeO.ite ?_ ?_
   | refine LeO.bind ?_ (fun _ => ?_)
  ·intro y0 y1 y2 y3 y4 y5 y6 y7 y8 y9 y10 y11
   unfold laws_FnForced.l3
   repeat' first
   | (with_reducible exact ih0 _ _ _ _ _ _)
   | (with_reducible exact ih1 _ _ _ _ _ _)
   | (with_reducible exact ih2 _ _ _ _ _ _ _)
   | (with_reducible exact ih3 _ _ _ _ _ _ _ _ _ _ _)
   | (with_reducible exact ih4 _ _ _ _ _ _ _ _ _ _ _ _)
   | (with_reducible exact ih5 _ _ _ _ _ _ _ _ _ _)
   | (with_reducible exact ih6 _ _ _ _ _ _ _ _ _ _ _ _)
   | (with_reducible exact impl_ClausesValid.mono _ _ _)
   | (with_reducible exact impl_Forced.mono _ _ _ _)
   | (with_reducible exact impl_TrueIn.mono _ _ _ _)
   | (with_reducible exact laws_wcInts.mono _ _ _)
   | (with_reducible exact spec_ClauseValid.mono _ _ _)
   | (with_reducible exact spec_ClausesValid.mono _ _ _)
   | (with_reducible exact spec_DrawForced.mono _ _)
   | (with_reducible exact spec_Forced.mono _ _ _ _)
   | (with_reducible exact LeO.refl _)
   | (with_reducible exact LeO.none _)
   | (with_reducible refine LeO.ite ?_ ?_)
   | (with_reducible refine LeO.bind ?_ (fun _ => ?_))
   | exact ih0 _ _ _ _ _ _
   | exact ih1 _ _ _ _ _ _
   | exact ih2 _ _ _ _ _ _ _
   | exact ih3 _ _ _ _ _ _ _ _ _ _ _
   | exact ih4 _ _ _ _ _ _ _ _ _ _ _ _
   | exact ih5 _ _ _ _ _ _ _ _ _ _
   | exact ih6 _ _ _ _ _ _ _ _ _ _ _ _
   | exact impl_ClausesValid.mono _ _ _
   | exact impl_Forced.mono _ _ _ _
   | exact impl_TrueIn.mono _ _ _ _
   | exact laws_wcInts.mono _ _ _
   | exact spec_ClauseValid.mono _ _ _
   | exact spec_ClausesValid.mono _ _ _
   | exact spec_DrawForced.mono _ _
   | exact spec_Forced.mono _ _ _ _
   | exact LeO.none _
   | refine LeO.ite ?_ ?_
   | refine LeO.bind ?_ (fun _ => ?_)
theorem laws_FnForced.mono : ∀ a0 k, LeO (laws_FnForced.f k a0) (laws_FnForced.f (k + 1) a0) := by
 intro a0 k
 obtain ⟨ih0, ih1, ih2, ih3, ih4, ih5, ih6⟩ := laws_FnForced.mono_l k
 unfold laws_FnForced.f
 repeat' first
   | (with_reducible exact ih0 _ _ _ _ _ _)
   | (with_reducible exact ih1 _ _ _ _ _ _)
   | (with_reducible exact ih2 _ _ _ _ _ _ _)
   | (with_reducible exact ih3 _ _ _ _ _ _ _ _ _ _ _)
   | (with_reducible exact ih4 _ _ _ _ _ _ _ _ _ _ _ _)
   | (with_reducible exact ih5 _ _ _ _ _ _ _ _ _ _)
   | (with_reducible exact ih6 _ _ _ _ _ _ _ _ _ _ _ _)
   | (with_reducible exact impl_ClausesValid.mono _ _ _)
   | (with_reducible exact impl_Forced.mono _ _ _ _)
   | (with_reducible exact impl_TrueIn.mono _ _ _ _)
   | (with_reducible exact laws_wcInts.mono _ _ _)
   | (with_reducible exact spec_ClauseValid.mono _ _ _)
   | (with_reducible exact spec_ClausesValid.mono _ _ _)
   | (with_reducible exact spec_DrawForced.mono _ _)
   | (with_reducible exact spec_Forced.mono _ _ _ _)
   | (with_reducible exact LeO.refl _)
   | (with_reducible exact LeO.none _)
   | (with_reducible refine LeO.ite ?_ ?_)
   | (with_reducible refine LeO.bind ?_ (fun _ => ?_))
   | exact ih0 _ _ _ _ _ _
   | exact ih1 _ _ _ _ _ _
   | exact ih2 _ _ _ _ _ _ _
   | exact ih3 _ _ _ _ _ _ _ _ _ _ _
   | exact ih4 _ _ _ _ _ _ _ _ _ _ _ _
   | exact ih5 _ _ _ _ _ _ _ _ _ _
   | exact ih6 _ _ _ _ _ _ _ _ _ _ _ _
   | exact impl_ClausesValid.mono _ _ _
   | exact impl_Forced.mono _ _ _ _
   | exact impl_TrueIn.mono _ _ _ _
   | exact laws_wcInts.mono _ _ _
   | exact spec_ClauseValid.mono _ _ _
   | exact spec_ClausesValid.mono _ _ _
   | exact spec_DrawForced.mono _ _
   | exact spec_Forced.mono _ _ _ _
   | exact LeO.none _
   | refine LeO.ite ?_ ?_
   | refine LeO.bind ?_ (fun _ => ?_)
def laws_FnForced.T6 : Bool × List (List Nat × List Nat) := (true, [([], []), ([], []), ([0, 1], [0, 1]), ([2], [2]), ([3], [3]), ([3], [3]), ([4, 5, 3, 3], [3, 4, 5]), ([6, 3], [3, 6]), ([3, 7], [3, 7]), ([8, 6], [8]), ([9], [9]), ([10, 9, 9], [9, 10]), ([9], [9]), ([12, 11, 9], [9, 12]), ([11, 13, 9], [9, 11, 13]), ([9, 14], [9, 14])])
def laws_FnForced.B6 : List Nat := [0, 0, 3, 7, 15, 15, 63, 127, 255, 511, 1023, 2047, 1023, 8191, 16383, 32767]
theorem laws_FnForced.tab6 : rtab .any (opsOf Try.f4 6) = laws_FnForced.T6 := by kernel_rfl
theorem laws_FnForced.bits6 : waitsOk laws_FnForced.T6.2 laws_FnForced.B6 = true := by kernel_rfl
set_option maxHeartbeats 8000000 in
set_option maxRecDepth 100000 in
theorem laws_FnForced.calls (k : Nat) (A0 : Option Addr) (c0 : Nat) (l0 : List Int) (r : Bool) (w : World) (hr0 : Kd.C (Kd.int .u8) w A0 l0.length l0) (hc0 : l0.length ≤ c0) (h : laws_FnForced.f k l0 = some r) :
  Calls Try.prog 4 #[.slice A0 l0.length c0] w fun e w' => e = .returned (.bool r) ∧ Below w.heap.size w w' := by
 have hu29 := Try.underlying29
 have HR0 := Aside0.mk hr0
 have HC0 := Aside0.mk hc0
 clear hr0 hc0
 have HB := Aside0.mk (Below.refl w.heap.size w)
 have H : (if (l0.length : Int) > 1048576 then (some true) else ((spec_DrawForced.f k l0).bind fun bt331 => ((impl_Forced.f k bt331.1 bt331.2.1 bt331.2.2).bind fun bt339 => ((spec_Forced.f k bt331.1 bt331.2.1 bt331.2.2).bind fun bt343 => (if (bt339.2 != bt343.2) = true then (laws_FnForced.j0 k bt331.2.2 bt339.1 bt339.2 true bt331.1 bt331.2.1) else ((laws_wcInts.f k bt339.1 bt343.1).bind fun t347 => (if t347 = true then ((impl_ClausesValid.f k bt331.1 bt331.2.1).bind fun t348 => ((spec_ClausesValid.f k bt331.1 bt331.2.1).bind fun t349 => (laws_FnForced.j0 k bt331.2.2 bt339.1 bt339.2 (t348 != t349) bt331.1 bt331.2.1))) else (laws_FnForced.j0 k bt331.2.2 bt339.1 bt339.2 true bt331.1 bt331.2.1)))))))) = some r := h
 clear h
 by_cases c2 : (l0.length : Int) > 1048576
 ·rw [if_pos c2] at H
  have c2b0 : decide (1048576 < (l0.length : Int)) = true := decide_eq_true c2
  have c2b1 : decide (1048576 < l0.length) = true := decide_eq_true (by omega)
  clear c2
  obtain rfl := Option.some.inj H
  go_enter Try.func4, Try.ntmps4
  go_wp2
  go_ret
  exact ⟨by first | rfl | (simp [errW_none, errW_some] <;> rfl) | (simp [*, errW_none, errW_some] <;> rfl), by repeat (first | (with_reducible first | exact HB.out | apply bwA | apply bwN | apply bwD) | exact HB.out)⟩
 ·rw [if_neg c2] at H
  have c2b0 : decide (1048576 < (l0.length : Int)) = false := decide_eq_false c2
  have c2b1 : decide (1048576 < l0.length) = false := decide_eq_false (by omega)
  clear c2
  replace H := Option.bind_eq_some_iff.mp H
  obtain ⟨⟨t331, t332, t335⟩, A30, H⟩ := H
  replace H : ((impl_Forced.f k t331 t332 t335).bind fun bt339 => ((spec_Forced.f k t331 t332 t335).bind fun bt343 => (if (bt339.2 != bt343.2) = true then (laws_FnForced.j0 k t335 bt339.1 bt339.2 true t331 t332) else ((laws_wcInts.f k bt339.1 bt343.1).bind fun t347 => (if t347 = true then ((impl_ClausesValid.f k t331 t332).bind fun t348 => ((spec_ClausesValid.f k t331 t332).bind fun t349 => (laws_FnForced.j0 k t335 bt339.1 bt339.2 (t348 != t349) t331 t332))) else (laws_FnForced.j0 k t335 bt339.1 bt339.2 true t331 t332)))))) = some r := H
  have A3 := Aside0.mk A30
  clear A30
  replace H := Option.bind_eq_some_iff.mp H
  obtain ⟨⟨t339, t342⟩, A40, H⟩ := H
  replace H : ((spec_Forced.f k t331 t332 t335).bind fun bt343 => (if (t342 != bt343.2) = true then (laws_FnForced.j0 k t335 t339 t342 true t331 t332) else ((laws_wcInts.f k t339 bt343.1).bind fun t347 => (if t347 = true then ((impl_ClausesValid.f k t331 t332).bind fun t348 => ((spec_ClausesValid.f k t331 t332).bind fun t349 => (laws_FnForced.j0 k t335 t339 t342 (t348 != t349) t331 t332))) else (laws_FnForced.j0 k t335 t339 t342 true t331 t332))))) = some r := H
  have A4 := Aside0.mk A40
  clear A40
  replace H := Option.bind_eq_some_iff.mp H
  obtain ⟨⟨t343, t346⟩, A50, H⟩ := H
  replace H : (if (t342 != t346) = true then (laws_FnForced.j0 k t335 t339 t342 true t331 t332) else ((laws_wcInts.f k t339 t343).bind fun t347 => (if t347 = true then ((impl_ClausesValid.f k t331 t332).bind fun t348 => ((spec_ClausesValid.f k t331 t332).bind fun t349 => (laws_FnForced.j0 k t335 t339 t342 (t348 != t349) t331 t332))) else (laws_FnForced.j0 k t335 t339 t342 true t331 t332)))) = some r := H
  have A5 := Aside0.mk A50
  clear A50
  have HC6 := Aside0.mk H
  clear H
  go_enter Try.func4, Try.ntmps4
  go_upto_region 6 with (first | ((with_reducible refine gate_callee (f := 22) rfl ?_); refine goesL_ (some 22) rfl rfl Try.func22 (by kernel_rfl) rfl #[.slice A0 l0.length c0] rfl (by (try simp only [List.map_toArray, List.map_cons, List.map_nil]); first | done | rfl | (simp only [List.length_drop, List.length_take]; rfl)) ?_; (with_reducible refine (spec_DrawForced.calls k _ _ l0 t331 t332 t335 _ ?side1 ?side2 A3.out).mono ?_); (case side1 => repeat (first | exact HR0.out | (with_reducible refine Kd.C_alloc ?_ _) | (with_reducible refine Kd.C_drewN ?_ _) | (with_reducible refine Kd.C_drew ?_))); (case side2 => exact HC0.out); rintro e w7 ⟨v333, v336, rfl, ho0, ho1, hb⟩; refine ⟨_, rfl, ?_⟩; have n0_ := Aside0.mk (Kd.S_lower ho0 (below_size (by repeat (first | (with_reducible first | exact HB.out | apply bwA | apply bwN | apply bwD) | exact HB.out)))); have n1_ := Aside0.mk (Kd.R_lower ho1 (below_size (by repeat (first | (with_reducible first | exact HB.out | apply bwA | apply bwN | apply bwD) | exact HB.out)))); have n2_ := Aside0.mk (below_step (by repeat (first | (with_reducible first | exact HB.out | apply bwA | apply bwN | apply bwD) | exact HB.out)) hb); clear HB; have HO334 := n0_; have HO337 := n1_; have HB := n2_; clear n0_ n1_ n2_; (try clear hb); (try clear hb2); (try clear hk); (try clear hi); (try clear ho0); (try clear ho1)) | ((with_reducible refine gate_dst (N := 3) rfl ?_); refine box_event ?hg (N := 3) ?hd (cs := #[.int .i64 0, .slice none 0 0]) (t := 29) ?hr ?_; (case hd => rfl); (case hg => rfl); (case hr => first | (go_simp; done) | (go_simp; rfl)); intro gb338 hg w8 hbox hb; have n0_ := Aside0.mk (Kd.S_below (by (with_reducible repeat (first | apply Kd.S_alloc | apply Kd.S_drewN | apply Kd.S_drew)); exact HO334.out) hb); have n1_ := Aside0.mk (Kd.R_below (by (with_reducible repeat (first | apply Kd.R_alloc | apply Kd.R_drewN | apply Kd.R_drew)); exact HO337.out) hb); have n2_ := Aside0.mk (below_step (by repeat (first | (with_reducible first | exact HB.out | apply bwA | apply bwN | apply bwD) | exact HB.out)) hb); have n3_ := Aside0.mk (hbox); have n4_ := Aside0.mk ((by rw [hg]; exact (below_size (by repeat (first | (with_reducible first | exact HB.out | apply bwA | apply bwN | apply bwD) | exact HB.out))) : w.heap.size ≤ gb338)); have n5_ := Aside0.mk ((by rw [hg]; exact (below_size (by repeat (first | (with_reducible first | exact HB.out | apply bwA | apply bwN | apply bwD) | exact HB.out))) : w.heap.size ≤ gb338)); clear HO334; clear HO337; clear HB; have HO334 := n0_; have HO337 := n1_; have HB := n2_; have BK338 := n3_; have GW338 := n4_; have GE338 := n5_; clear n0_ n1_ n2_ n3_ n4_ n5_; clear hb hbox hg; have hcz9_0 : w8.cell? ⟨gb338, 0, none⟩ = some (.int .i64 0) := (blk_cell BK338.out 0).trans rfl; have hcz9_1 : w8.cell? ⟨gb338, 1, none⟩ = some (.slice none 0 0) := (blk_cell BK338.out 1).trans rfl; have hfz9_0 := blk_frozen BK338.out 0; have hfz9_1 := blk_frozen BK338.out 1; obtain ⟨Ao10, co10, eo10⟩ := Kd.S_slice HO334.out; subst eo10; obtain ⟨Ao11, co11, eo11⟩ := Kd.R_slice HO337.out; subst eo11) | ((with_reducible refine gate_callee (f := 16) rfl ?_); refine goesL_ (some 28) rfl rfl Try.func16 (by kernel_rfl) rfl #[.agg #[.int .i64 t331, .slice Ao10 t332.length co10], .slice Ao11 t335.length co11] rfl (by (try simp only [List.map_toArray, List.map_cons, List.map_nil]); first | done | rfl | (simp only [List.length_drop, List.length_take]; rfl)) ?_; (with_reducible refine (impl_Forced.calls k t331 _ _ t332 _ _ t335 t339 t342 _ ?side1 ?side2 ?side3 ?side4 A4.out).mono ?_); (case side1 => refine (Kd.S_reads' (e := 25) (base := w.heap.size) (ok := fun k_ => some k_ ≠ (.slice Ao11 t335.length co11 : Value).ownBlock) (n := t332.length) (c := co10) ?_).2.2; exact (by (with_reducible repeat (first | apply Kd.S_alloc | apply Kd.S_drewN | apply Kd.S_drew)); exact (Kd.S_mono (Kd.S_far (p := ⟨gb338, 1, none⟩) (Kd.S_far (p := ⟨gb338, 0, none⟩) (Kd.S_types HO334.out BK338.out (by decide)) (fun _ hk => hk.2) (.int .i64 t331)) (fun _ hk => hk.2) (.slice Ao10 t332.length co10)) (fun _ h_ => h_.1)))); (case side2 => exact (Kd.S_reads' HO334.out).2.1); (case side3 => refine (Kd.R_reads' (e := 3) (base := w.heap.size) (ok := fun k_ => True) (n := t335.length) (c := co11) ?_).2.2; exact (by (with_reducible repeat (first | apply Kd.R_alloc | apply Kd.R_drewN | apply Kd.R_drew)); exact (Kd.R_mono (Kd.R_far (p := ⟨gb338, 1, none⟩) (Kd.R_far (p := ⟨gb338, 0, none⟩) (Kd.R_types HO337.out BK338.out (by decide)) (fun _ hk => hk.2) (.int .i64 t331)) (fun _ hk => hk.2) (.slice Ao10 t332.length co10)) (fun _ h_ => h_.1)))); (case side4 => exact (Kd.R_reads' HO337.out).2.1); rintro e w12 ⟨v340, rfl, ho0, hb⟩; refine ⟨_, rfl, ?_⟩; have n0_ := Aside0.mk (Kd.S_elder' (by (with_reducible repeat (first | apply Kd.S_alloc | apply Kd.S_drewN | apply Kd.S_drew)); exact (Kd.S_mono (Kd.S_far (p := ⟨gb338, 1, none⟩) (Kd.S_far (p := ⟨gb338, 0, none⟩) (Kd.S_types HO334.out BK338.out (by decide)) (fun _ hk => hk.2) (.int .i64 t331)) (fun _ hk => hk.2) (.slice Ao10 t332.length co10)) (fun _ h_ => h_.1))) (Kd.R_base ho0) hb); have n1_ := Aside0.mk (Kd.R_elder' (by (with_reducible repeat (first | apply Kd.R_alloc | apply Kd.R_drewN | apply Kd.R_drew)); exact (Kd.R_mono (Kd.R_far (p := ⟨gb338, 1, none⟩) (Kd.R_far (p := ⟨gb338, 0, none⟩) (Kd.R_types HO337.out BK338.out (by decide)) (fun _ hk => hk.2) (.int .i64 t331)) (fun _ hk => hk.2) (.slice Ao10 t332.length co10)) (fun _ h_ => h_.1))) (Kd.R_base ho0) hb); have n2_ := Aside0.mk (Kd.R_lower (Kd.R_new' ho0 (Kd.R_lt (by (with_reducible repeat (first | apply Kd.R_alloc | apply Kd.R_drewN | apply Kd.R_drew)); exact (Kd.R_mono (Kd.R_far (p := ⟨gb338, 1, none⟩) (Kd.R_far (p := ⟨gb338, 0, none⟩) (Kd.R_types HO337.out BK338.out (by decide)) (fun _ hk => hk.2) (.int .i64 t331)) (fun _ hk => hk.2) (.slice Ao10 t332.length co10)) (fun _ h_ => h_.1))))) (below_size (by repeat (first | (with_reducible first | exact HB.out | apply bwA | apply bwN | apply bwD | refine below_set ?_ GE338.out) | exact HB.out)))); have n3_ := Aside0.mk (blk_below (g := gb338) (o := .cells #[.int .i64 t331, .slice Ao10 t332.length co10] 29 (0, 0)) (by (with_reducible repeat (first | refine blk_drewN ?_ _ | refine blk_drew ?_ | refine blk_alloc ?_ _)); refine blk_put (cs := #[.int .i64 t331, .slice none 0 0]) ?_ 1 _ rfl; (with_reducible repeat (first | refine blk_drewN ?_ _ | refine blk_drew ?_ | refine blk_alloc ?_ _)); refine blk_put (cs := #[.int .i64 0, .slice none 0 0]) ?_ 0 _ rfl; (with_reducible repeat (first | refine blk_drewN ?_ _ | refine blk_drew ?_ | refine blk_alloc ?_ _)); exact BK338.out) hb); have n4_ := Aside0.mk (below_step (by repeat (first | (with_reducible first | exact HB.out | apply bwA | apply bwN | apply bwD | refine below_set ?_ GE338.out) | exact HB.out)) hb); clear HO334; clear HO337; clear BK338; clear HB; have HO334 := n0_; have HO337 := n1_; have HO341 := n2_; have BK338 := n3_; have HB := n4_; clear n0_ n1_ n2_ n3_ n4_; (try clear hb); (try clear hb2); (try clear hk); (try clear hi); (try clear ho0); have hcz13_0 : w12.cell? ⟨gb338, 0, none⟩ = some (.int .i64 t331) := (blk_cell BK338.out 0).trans rfl; have hcz13_1 : w12.cell? ⟨gb338, 1, none⟩ = some (.slice Ao10 t332.length co10) := (blk_cell BK338.out 1).trans rfl; have hfz13_0 := blk_frozen BK338.out 0; have hfz13_1 := blk_frozen BK338.out 1) | ((with_reducible refine gate_callee (f := 13) rfl ?_); refine goesL_ (some 34) rfl rfl Try.func13 (by kernel_rfl) rfl #[.agg #[.int .i64 t331, .slice Ao10 t332.length co10], .slice Ao11 t335.length co11] rfl (by (try simp only [List.map_toArray, List.map_cons, List.map_nil]); first | done | rfl | (simp only [List.length_drop, List.length_take]; rfl)) ?_; (with_reducible refine (spec_Forced.calls k t331 _ _ t332 _ _ t335 t343 t346 _ ?side1 ?side2 ?side3 ?side4 A5.out).mono ?_); (case side1 => repeat (first | exact (Kd.S_reads' HO334.out).2.2 | (with_reducible refine Kd.C_alloc ?_ _) | (with_reducible refine Kd.C_drewN ?_ _) | (with_reducible refine Kd.C_drew ?_))); (case side2 => exact (Kd.S_reads' HO334.out).2.1); (case side3 => repeat (first | exact (Kd.R_reads' HO337.out).2.2 | (with_reducible refine Kd.C_alloc ?_ _) | (with_reducible refine Kd.C_drewN ?_ _) | (with_reducible refine Kd.C_drew ?_))); (case side4 => exact (Kd.R_reads' HO337.out).2.1); rintro e w14 ⟨v344, rfl, ho0, hb⟩; refine ⟨_, rfl, ?_⟩; have n0_ := Aside0.mk (Kd.S_elder' (by (with_reducible repeat (first | apply Kd.S_alloc | apply Kd.S_drewN | apply Kd.S_drew)); exact HO334.out) (Kd.R_base ho0) hb); have n1_ := Aside0.mk (Kd.R_elder' (by (with_reducible repeat (first | apply Kd.R_alloc | apply Kd.R_drewN | apply Kd.R_drew)); exact HO337.out) (Kd.R_base ho0) hb); have n2_ := Aside0.mk (Kd.R_elder' (by (with_reducible repeat (first | apply Kd.R_alloc | apply Kd.R_drewN | apply Kd.R_drew)); exact HO341.out) (Kd.R_base ho0) hb); have n3_ := Aside0.mk (Kd.R_lower (Kd.R_new' (Kd.R_new' ho0 (Kd.R_lt (by (with_reducible repeat (first | apply Kd.R_alloc | apply Kd.R_drewN | apply Kd.R_drew)); exact HO337.out))) (Kd.R_lt (by (with_reducible repeat (first | apply Kd.R_alloc | apply Kd.R_drewN | apply Kd.R_drew)); exact HO341.out))) (below_size (by repeat (first | (with_reducible first | exact HB.out | apply bwA | apply bwN | apply bwD | refine below_set ?_ GE338.out) | exact HB.out)))); have n4_ := Aside0.mk (blk_below (g := gb338) (o := .cells #[.int .i64 t331, .slice Ao10 t332.length co10] 29 (0, 0)) (by (with_reducible repeat (first | refine blk_drewN ?_ _ | refine blk_drew ?_ | refine blk_alloc ?_ _)); exact BK338.out) hb); have n5_ := Aside0.mk (below_step (by repeat (first | (with_reducible first | exact HB.out | apply bwA | apply bwN | apply bwD | refine below_set ?_ GE338.out) | exact HB.out)) hb); clear HO334; clear HO337; clear HO341; clear BK338; clear HB; have HO334 := n0_; have HO337 := n1_; have HO341 := n2_; have HO345 := n3_; have BK338 := n4_; have HB := n5_; clear n0_ n1_ n2_ n3_ n4_ n5_; (try clear hb); (try clear hb2); (try clear hk); (try clear hi); (try clear ho0)))
  (try simp only [Act.put, List.setIfInBounds_toArray, List.set_cons_zero, List.set_cons_succ])
  go_cut [52] (fun v52 wc => ∃ (kq : Nat) (x52_5 : Bool), v52 = .bool x52_5 ∧ Aside0 (laws_FnForced.j0 kq t335 t339 t342 x52_5 t331 t332 = some r) ∧ Aside0 (kq ≤ k) ∧ Aside0 (Kd.R (Kd.int .i64) 3 wc w.heap.size (fun k_ => some k_ ≠ (v340 : Value).ownBlock) (.slice Ao11 t335.length co11) t335) ∧ Aside0 (Kd.R (Kd.int .i64) 3 wc w.heap.size (fun k_ => some k_ ≠ ((.slice Ao11 t335.length co11) : Value).ownBlock) v340 t339) ∧ Aside0 (Kd.S (Kd.slice 3 (Kd.int .i64)) 25 wc w.heap.size (fun k_ => some k_ ≠ ((.slice Ao11 t335.length co11) : Value).ownBlock ∧ some k_ ≠ (v340 : Value).ownBlock) (.slice Ao10 t332.length co10) t332) ∧ Aside0 (wc.heap[gb338]? = some (.cells #[.int .i64 t331, (.slice Ao10 t332.length co10)] 29 (0, 0))) ∧ Aside0 (Below w.heap.size w wc))
  case first =>
   have H := HC6.out
   clear HC6
   by_cases c15 : (t342 != t346) = true
   ·rw [if_pos c15] at H
    have c15b0 : (t342 != t346) = true := c15
    (try (have c15b1 : decide (t342 = t346) = false := by simpa using c15))
    (try (have c15b2 : (t342 == t346) = false := by simpa using c15))
    (try (have c15b3 : ¬ (t342 = t346) := by simpa using c15))
    clear c15
    (first | rw [c15b0] | (simp only [i64_w, i32_w]; rw [c15b0]) | skip)
    have H' := Aside0.mk H
    clear H
    try go_wp2
    have n0_ := Aside0.mk (Kd.S_drew HO334.out)
    have n1_ := Aside0.mk (Kd.R_drew HO337.out)
    have n2_ := Aside0.mk (Kd.R_drew HO341.out)
    have n3_ := Aside0.mk (Kd.R_drew HO345.out)
    have n4_ := Aside0.mk (blk_drew BK338.out)
    have n5_ := Aside0.mk (below_drew1 HB.out)
    clear HO334
    clear HO337
    clear HO341
    clear HO345
    clear BK338
    clear HB
    have HO334 := n0_
    have HO337 := n1_
    have HO341 := n2_
    have HO345 := n3_
    have BK338 := n4_
    have HB := n5_
    clear n0_ n1_ n2_ n3_ n4_ n5_
    refine start_ (n := 16) (S := fun w' => True) (ds := []) #[false, false, false, false, false, false, false, false, false, false, false, false, false, false, false, false] (by kernel_rfl) rfl rfl trivial (fun hHeld => ?_); refine with_tabW laws_FnForced.tab6 laws_FnForced.bits6 (fun HT_ HW_ => ?_)
    generalize w14.drew = w16 at HO334 HO337 HO341 HO345 BK338 HB hHeld ⊢
    refine pure_ (i := 0) (N := some 37) (v := ?_) (a' := ?_) #[true, false, false, false, false, false, false, false, false, false, false, false, false, false, false, false] rfl rfl (any_of HT_.out (by kernel_rfl)) (fun _ _ _ h => h) (Or.inl ⟨by rfl, ?_⟩) ?_ ?_
    rotate_left
    ·intro w'
     go_simp
     with_reducible rfl
    rotate_left
    ·simp only [Act.put, List.setIfInBounds_toArray, List.set_cons_zero, List.set_cons_succ, i64_w, i32_w]
     rfl
    refine pure_ (i := 1) (N := some 38) (v := ?_) (a' := ?_) #[true, true, false, false, false, false, false, false, false, false, false, false, false, false, false, false] rfl rfl (any_of HT_.out (by kernel_rfl)) (fun _ _ _ h => h) (Or.inl ⟨by rfl, ?_⟩) ?_ ?_
    rotate_left
    ·intro w'
     go_simp
     with_reducible rfl
    rotate_left
    ·simp only [Act.put, List.setIfInBounds_toArray, List.set_cons_zero, List.set_cons_succ, i64_w, i32_w]
     rfl
    refine pure_ (i := 2) (N := some 39) (v := ?_) (a' := ?_) #[true, true, true, false, false, false, false, false, false, false, false, false, false, false, false, false] rfl rfl (any_of HT_.out (by kernel_rfl)) (fun _ _ _ h => h) (Or.inl ⟨by rfl, ?_⟩) ?_ ?_
    rotate_left
    ·intro w'
     go_simp
     with_reducible rfl
    rotate_left
    ·simp only [Act.put, List.setIfInBounds_toArray, List.set_cons_zero, List.set_cons_succ, i64_w, i32_w]
     rfl
    refine pure_ (i := 3) (N := some 40) (v := ?_) (a' := ?_) #[true, true, true, true, false, false, false, false, false, false, false, false, false, false, false, false] rfl rfl (any_of HT_.out (by kernel_rfl)) (fun _ _ _ h => h) (Or.inl ⟨by rfl, ?_⟩) ?_ ?_
    rotate_left
    ·intro w'
     go_simp
     with_reducible rfl
    rotate_left
    ·simp only [Act.put, List.setIfInBounds_toArray, List.set_cons_zero, List.set_cons_succ, i64_w, i32_w]
     rfl
    refine pure_ (i := 4) (N := some 41) (v := undef) (a' := ?_) #[true, true, true, true, true, false, false, false, false, false, false, false, false, false, false, false] rfl rfl (any_of HT_.out (by kernel_rfl)) (fun _ _ _ h => h) (Or.inr ⟨by rfl, rfl⟩) ?_ ?_
    rotate_left
    ·simp only [Act.put, List.setIfInBounds_toArray, List.set_cons_zero, List.set_cons_succ, i64_w, i32_w]
     rfl
    refine pure_ (i := 5) (N := some 42) (v := undef) (a' := ?_) #[true, true, true, true, true, true, false, false, false, false, false, false, false, false, false, false] rfl rfl (any_of HT_.out (by kernel_rfl)) (fun _ _ _ h => h) (Or.inr ⟨by rfl, rfl⟩) ?_ ?_
    rotate_left
    ·simp only [Act.put, List.setIfInBounds_toArray, List.set_cons_zero, List.set_cons_succ, i64_w, i32_w]
     rfl
    refine pure_ (i := 6) (N := some 43) (v := undef) (a' := ?_) #[true, true, true, true, true, true, true, false, false, false, false, false, false, false, false, false] rfl rfl (any_of HT_.out (by kernel_rfl)) (fun _ _ _ h => h) (Or.inr ⟨by rfl, rfl⟩) ?_ ?_
    rotate_left
    ·simp only [Act.put, List.setIfInBounds_toArray, List.set_cons_zero, List.set_cons_succ, i64_w, i32_w]
     rfl
    refine pure_ (i := 7) (N := some 44) (v := undef) (a' := ?_) #[true, true, true, true, true, true, true, true, false, false, false, false, false, false, false, false] rfl rfl (any_of HT_.out (by kernel_rfl)) (fun _ _ _ h => h) (Or.inr ⟨by rfl, rfl⟩) ?_ ?_
    rotate_left
    ·simp only [Act.put, List.setIfInBounds_toArray, List.set_cons_zero, List.set_cons_succ, i64_w, i32_w]
     rfl
    refine pure_ (i := 8) (N := some 45) (v := ?_) (a' := ?_) #[true, true, true, true, true, true, true, true, true, false, false, false, false, false, false, false] rfl rfl (any_of HT_.out (by kernel_rfl)) (fun _ _ _ h => h) (Or.inl ⟨by rfl, ?_⟩) ?_ ?_
    rotate_left
    ·intro w'
     go_simp
     with_reducible rfl
    rotate_left
    ·simp only [Act.put, List.setIfInBounds_toArray, List.set_cons_zero, List.set_cons_succ, i64_w, i32_w]
     rfl
    refine pure_ (i := 9) (N := some 46) (v := ?_) (a' := ?_) #[true, true, true, true, true, true, true, true, true, true, false, false, false, false, false, false] rfl rfl (any_of HT_.out (by kernel_rfl)) (fun _ _ _ h => h) (Or.inl ⟨by rfl, ?_⟩) ?_ ?_
    rotate_left
    ·intro w'
     go_simp
     with_reducible rfl
    rotate_left
    ·simp only [Act.put, List.setIfInBounds_toArray, List.set_cons_zero, List.set_cons_succ, i64_w, i32_w]
     rfl
    refine pure_ (i := 10) (N := some 47) (v := undef) (a' := ?_) #[true, true, true, true, true, true, true, true, true, true, true, false, false, false, false, false] rfl rfl (any_of HT_.out (by kernel_rfl)) (fun _ _ _ h => h) (Or.inr ⟨by rfl, rfl⟩) ?_ ?_
    rotate_left
    ·simp only [Act.put, List.setIfInBounds_toArray, List.set_cons_zero, List.set_cons_succ, i64_w, i32_w]
     rfl
    refine pure_ (i := 11) (N := some 48) (v := undef) (a' := ?_) #[true, true, true, true, true, true, true, true, true, true, true, true, false, false, false, false] rfl rfl (any_of HT_.out (by kernel_rfl)) (fun _ _ _ h => h) (Or.inr ⟨by rfl, rfl⟩) ?_ ?_
    rotate_left
    ·simp only [Act.put, List.setIfInBounds_toArray, List.set_cons_zero, List.set_cons_succ, i64_w, i32_w]
     rfl
    refine pure_ (i := 12) (N := some 49) (v := undef) (a' := ?_) #[true, true, true, true, true, true, true, true, true, true, true, true, true, false, false, false] rfl rfl (any_of HT_.out (by kernel_rfl)) (fun _ _ _ h => h) (Or.inr ⟨by rfl, rfl⟩) ?_ ?_
    rotate_left
    ·simp only [Act.put, List.setIfInBounds_toArray, List.set_cons_zero, List.set_cons_succ, i64_w, i32_w]
     rfl
    refine pure_ (i := 13) (N := some 50) (v := undef) (a' := ?_) #[true, true, true, true, true, true, true, true, true, true, true, true, true, true, false, false] rfl rfl (any_of HT_.out (by kernel_rfl)) (fun _ _ _ h => h) (Or.inr ⟨by rfl, rfl⟩) ?_ ?_
    rotate_left
    ·simp only [Act.put, List.setIfInBounds_toArray, List.set_cons_zero, List.set_cons_succ, i64_w, i32_w]
     rfl
    refine pure_ (i := 14) (N := some 51) (v := undef) (a' := ?_) #[true, true, true, true, true, true, true, true, true, true, true, true, true, true, true, false] rfl rfl (any_of HT_.out (by kernel_rfl)) (fun _ _ _ h => h) (Or.inr ⟨by rfl, rfl⟩) ?_ ?_
    rotate_left
    ·simp only [Act.put, List.setIfInBounds_toArray, List.set_cons_zero, List.set_cons_succ, i64_w, i32_w]
     rfl
    refine pure_ (i := 15) (N := some 52) (v := ?_) (a' := ?_) #[true, true, true, true, true, true, true, true, true, true, true, true, true, true, true, true] rfl rfl (any_of HT_.out (by kernel_rfl)) (fun _ _ _ h => h) (Or.inl ⟨by rfl, ?_⟩) ?_ ?_
    rotate_left
    ·intro w'
     go_simp
     with_reducible rfl
    rotate_left
    ·simp only [Act.put, List.setIfInBounds_toArray, List.set_cons_zero, List.set_cons_succ, i64_w, i32_w]
     rfl
    refine done_ (done_of HT_.out (by kernel_rfl)) ?_
    try go_wp2
    go_meet
    case rel => exact ⟨_, (true), (by first | rfl | (simp; done) | (simp [*]; done)), H', ⟨by first | omega | exact Nat.le_refl _⟩, ⟨by (with_reducible repeat (first | apply Kd.R_alloc | apply Kd.R_drewN | apply Kd.R_drew)); exact Kd.R_mono HO337.out (fun _ hk => hk.1.2)⟩, ⟨by (with_reducible repeat (first | apply Kd.R_alloc | apply Kd.R_drewN | apply Kd.R_drew)); exact Kd.R_mono HO341.out (fun _ hk => hk.1.2)⟩, ⟨by (with_reducible repeat (first | apply Kd.S_alloc | apply Kd.S_drewN | apply Kd.S_drew)); exact Kd.S_mono HO334.out (fun _ hk => ⟨hk.1.1, hk.1.2⟩)⟩, ⟨by (with_reducible repeat (first | refine blk_drewN ?_ _ | refine blk_drew ?_ | refine blk_alloc ?_ _)); exact BK338.out⟩, ⟨by repeat (first | (with_reducible first | exact HB.out | apply bwA | apply bwN | apply bwD | refine below_set ?_ GE338.out) | exact HB.out)⟩⟩
   ·rw [if_neg c15] at H
    have c15b0 : (t342 != t346) = false := by simpa using c15
    (try (have c15b1 : decide (t342 = t346) = true := by simpa using c15))
    (try (have c15b2 : (t342 == t346) = true := by simpa using c15))
    clear c15
    (first | rw [c15b0] | (simp only [i64_w, i32_w]; rw [c15b0]) | skip)
    replace H := Option.bind_eq_some_iff.mp H
    obtain ⟨t347, A170, H⟩ := H
    replace H : (if t347 = true then ((impl_ClausesValid.f k t331 t332).bind fun t348 => ((spec_ClausesValid.f k t331 t332).bind fun t349 => (laws_FnForced.j0 k t335 t339 t342 (t348 != t349) t331 t332))) else (laws_FnForced.j0 k t335 t339 t342 true t331 t332)) = some r := H
    have A17 := Aside0.mk A170
    clear A170
    by_cases c18 : t347 = true
    ·subst c18
     have H1 : ((impl_ClausesValid.f k t331 t332).bind fun t348 => ((spec_ClausesValid.f k t331 t332).bind fun t349 => (laws_FnForced.j0 k t335 t339 t342 (t348 != t349) t331 t332))) = some r := by rw [if_pos rfl] at H; exact H
     clear H
     have H := H1
     clear H1
     replace H := Option.bind_eq_some_iff.mp H
     obtain ⟨t348, A190, H⟩ := H
     replace H : ((spec_ClausesValid.f k t331 t332).bind fun t349 => (laws_FnForced.j0 k t335 t339 t342 (t348 != t349) t331 t332)) = some r := H
     have A19 := Aside0.mk A190
     clear A190
     replace H := Option.bind_eq_some_iff.mp H
     obtain ⟨t349, A200, H⟩ := H
     replace H : (laws_FnForced.j0 k t335 t339 t342 (t348 != t349) t331 t332) = some r := H
     have A20 := Aside0.mk A200
     clear A200
     have H' := Aside0.mk H
     clear H
     try go_wp2
     have n0_ := Aside0.mk (Kd.S_drew HO334.out)
     have n1_ := Aside0.mk (Kd.R_drew HO337.out)
     have n2_ := Aside0.mk (Kd.R_drew HO341.out)
     have n3_ := Aside0.mk (Kd.R_drew HO345.out)
     have n4_ := Aside0.mk (blk_drew BK338.out)
     have n5_ := Aside0.mk (below_drew1 HB.out)
     clear HO334
     clear HO337
     clear HO341
     clear HO345
     clear BK338
     clear HB
     have HO334 := n0_
     have HO337 := n1_
     have HO341 := n2_
     have HO345 := n3_
     have BK338 := n4_
     have HB := n5_
     clear n0_ n1_ n2_ n3_ n4_ n5_
     obtain ⟨Ao22, co22, eo22⟩ := Kd.R_slice HO341.out
     (first | subst eo22 | (injection eo22 with f1_ f2_ f3_; have f4_ := f1_.symm; have f5_ := f3_.symm; clear f1_ f2_ f3_; subst f4_; subst f5_))
     obtain ⟨Ao23, co23, eo23⟩ := Kd.R_slice HO345.out
     (first | subst eo23 | (injection eo23 with f1_ f2_ f3_; have f4_ := f1_.symm; have f5_ := f3_.symm; clear f1_ f2_ f3_; subst f4_; subst f5_))
     refine start_ (n := 16) (S := fun w' => w'.cell? ⟨gb338, 0, none⟩ = some (.int .i64 t331) ∧ w'.cell? ⟨gb338, 1, none⟩ = some (.slice Ao10 t332.length co10)) (ds := []) #[false, false, false, false, false, false, false, false, false, false, false, false, false, false, false, false] (by kernel_rfl) rfl rfl ⟨(blk_cell BK338.out 0).trans rfl, (blk_cell BK338.out 1).trans rfl⟩ (fun hHeld => ?_); refine with_tabW laws_FnForced.tab6 laws_FnForced.bits6 (fun HT_ HW_ => ?_)
     generalize w14.drew = w21 at HO334 HO337 HO341 HO345 BK338 HB hHeld ⊢
     refine pure_ (i := 0) (N := some 37) (v := ?_) (a' := ?_) #[true, false, false, false, false, false, false, false, false, false, false, false, false, false, false, false] rfl rfl (any_of HT_.out (by kernel_rfl)) (fun _ _ _ h => h) (Or.inl ⟨by rfl, ?_⟩) ?_ ?_
     rotate_left
     ·intro w'
      go_simp
      with_reducible rfl
     rotate_left
     ·simp only [Act.put, List.setIfInBounds_toArray, List.set_cons_zero, List.set_cons_succ, i64_w, i32_w]
      rfl
     refine pure_ (i := 1) (N := some 38) (v := ?_) (a' := ?_) #[true, true, false, false, false, false, false, false, false, false, false, false, false, false, false, false] rfl rfl (any_of HT_.out (by kernel_rfl)) (fun _ _ _ h => h) (Or.inl ⟨by rfl, ?_⟩) ?_ ?_
     rotate_left
     ·intro w'
      go_simp
      with_reducible rfl
     rotate_left
     ·simp only [Act.put, List.setIfInBounds_toArray, List.set_cons_zero, List.set_cons_succ, i64_w, i32_w]
      rfl
     refine pure_ (i := 2) (N := some 39) (v := ?_) (a' := ?_) #[true, true, true, false, false, false, false, false, false, false, false, false, false, false, false, false] rfl rfl (any_of HT_.out (by kernel_rfl)) (fun _ _ _ h => h) (Or.inl ⟨by rfl, ?_⟩) ?_ ?_
     rotate_left
     ·intro w'
      go_simp
      with_reducible rfl
     rotate_left
     ·simp only [Act.put, List.setIfInBounds_toArray, List.set_cons_zero, List.set_cons_succ, i64_w, i32_w]
      rfl
     refine pure_ (i := 3) (N := some 40) (v := ?_) (a' := ?_) #[true, true, true, true, false, false, false, false, false, false, false, false, false, false, false, false] rfl rfl (any_of HT_.out (by kernel_rfl)) (fun _ _ _ h => h) (Or.inl ⟨by rfl, ?_⟩) ?_ ?_
     rotate_left
     ·intro w'
      go_simp
      with_reducible rfl
     rotate_left
     ·simp only [Act.put, List.setIfInBounds_toArray, List.set_cons_zero, List.set_cons_succ, i64_w, i32_w]
      rfl
     refine pure_ (i := 4) (N := some 41) (v := ?_) (a' := ?_) #[true, true, true, true, true, false, false, false, false, false, false, false, false, false, false, false] rfl rfl (any_of HT_.out (by kernel_rfl)) (fun _ _ _ h => h) (Or.inl ⟨by rfl, ?_⟩) ?_ ?_
     rotate_left
     ·intro w'
      go_simp
      with_reducible rfl
     rotate_left
     ·simp only [Act.put, List.setIfInBounds_toArray, List.set_cons_zero, List.set_cons_succ, i64_w, i32_w]
      rfl
     refine pure_ (i := 5) (N := some 42) (v := ?_) (a' := ?_) #[true, true, true, true, true, true, false, false, false, false, false, false, false, false, false, false] rfl rfl (any_of HT_.out (by kernel_rfl)) (fun _ _ _ h => h) (Or.inl ⟨by rfl, ?_⟩) ?_ ?_
     rotate_left
     ·intro w'
      go_simp
      with_reducible rfl
     rotate_left
     ·simp only [Act.put, List.setIfInBounds_toArray, List.set_cons_zero, List.set_cons_succ, i64_w, i32_w]
      rfl
     refine one_ (i := 6) (N := some 43) #[true, true, true, true, true, true, true, false, false, false, false, false, false, false, false, false] rfl rfl (one_of HT_.out (by kernel_rfl)) (by decide) (fun K hK => ?_)
     refine goes_ Try.func23 (by kernel_rfl) rfl #[.slice Ao22 t339.length co22, .slice Ao23 t343.length co23] (by rfl) rfl rfl (by (try simp only [List.map_toArray, List.map_cons, List.map_nil]); first | done | rfl | (simp only [List.length_drop, List.length_take]; rfl)) ?_
     with_reducible refine (laws_wcInts.calls k _ _ t339 _ _ t343 true _ ?side1 ?side2 ?side3 ?side4 A17.out).mono ?_
     (case side1 => repeat (first | exact (Kd.R_reads' HO341.out).2.2 | (with_reducible refine Kd.C_alloc ?_ _) | (with_reducible refine Kd.C_drewN ?_ _) | (with_reducible refine Kd.C_drew ?_)))
     (case side2 => exact (Kd.R_reads' HO341.out).2.1)
     (case side3 => repeat (first | exact (Kd.R_reads' HO345.out).2.2 | (with_reducible refine Kd.C_alloc ?_ _) | (with_reducible refine Kd.C_drewN ?_ _) | (with_reducible refine Kd.C_drew ?_)))
     (case side4 => exact (Kd.R_reads' HO345.out).2.1)
     rintro e w' ⟨rfl, ⟨nd, rfl⟩⟩
     refine ⟨_, rfl, ?_⟩
     refine hK.out _ _ ⟨(blk_cell BK338.out 0).trans rfl, (blk_cell BK338.out 1).trans rfl⟩ (fun hHeld => ?_)
     clear hK K
     refine norm_ (a' := ?_) ?_ ?_
     rotate_left
     ·show Act.put _ (some 43) _ = _
      simp only [Act.put, List.setIfInBounds_toArray, List.set_cons_zero, List.set_cons_succ, i64_w, i32_w]
      rfl
     refine pure_ (i := 7) (N := some 44) (v := ?_) (a' := ?_) #[true, true, true, true, true, true, true, true, false, false, false, false, false, false, false, false] rfl rfl (any_of HT_.out (by kernel_rfl)) (fun _ _ _ h => h) (Or.inl ⟨by rfl, ?_⟩) ?_ ?_
     rotate_left
     ·intro w'
      go_simp
      with_reducible rfl
     rotate_left
     ·simp only [Act.put, List.setIfInBounds_toArray, List.set_cons_zero, List.set_cons_succ, i64_w, i32_w]
      rfl
     refine pure_ (i := 8) (N := some 45) (v := ?_) (a' := ?_) #[true, true, true, true, true, true, true, true, true, false, false, false, false, false, false, false] rfl rfl (any_of HT_.out (by kernel_rfl)) (fun _ _ _ h => h) (Or.inl ⟨by rfl, ?_⟩) ?_ ?_
     rotate_left
     ·intro w'
      go_simp
      with_reducible rfl
     rotate_left
     ·simp only [Act.put, List.setIfInBounds_toArray, List.set_cons_zero, List.set_cons_succ, i64_w, i32_w]
      rfl
     refine pure_ (i := 9) (N := some 46) (v := ?_) (a' := ?_) #[true, true, true, true, true, true, true, true, true, true, false, false, false, false, false, false] rfl rfl (any_of HT_.out (by kernel_rfl)) (fun _ _ _ h => h) (Or.inl ⟨by rfl, ?_⟩) ?_ ?_
     rotate_left
     ·intro w'
      go_simp
      with_reducible rfl
     rotate_left
     ·simp only [Act.put, List.setIfInBounds_toArray, List.set_cons_zero, List.set_cons_succ, i64_w, i32_w]
      rfl
     refine take_ (i := 10) (N := some 47) (v := ?_) (a' := ?_) #[true, true, true, true, true, true, true, true, true, true, true, false, false, false, false, false] rfl rfl (take_ofW HT_.out HW_.out (by kernel_rfl)) (fun _ _ _ h => h) (Or.inl ⟨by rfl, ?_⟩) hHeld ?_ ?_
     rotate_left
     ·rintro w' ⟨s0, s1⟩
      go_simp
      with_reducible rfl
     rotate_left
     ·simp only [Act.put, List.setIfInBounds_toArray, List.set_cons_zero, List.set_cons_succ, i64_w, i32_w]
      rfl
     refine take_ (i := 12) (N := some 49) (v := ?_) (a' := ?_) #[true, true, true, true, true, true, true, true, true, true, true, false, true, false, false, false] rfl rfl (take_ofW HT_.out HW_.out (by kernel_rfl)) (fun _ _ _ h => h) (Or.inl ⟨by rfl, ?_⟩) hHeld ?_ ?_
     rotate_left
     ·rintro w' ⟨s0, s1⟩
      go_simp
      with_reducible rfl
     rotate_left
     ·simp only [Act.put, List.setIfInBounds_toArray, List.set_cons_zero, List.set_cons_succ, i64_w, i32_w]
      rfl
     refine one_ (i := 11) (N := some 48) #[true, true, true, true, true, true, true, true, true, true, true, true, true, false, false, false] rfl rfl (one_of HT_.out (by kernel_rfl)) (by decide) (fun K hK => ?_)
     refine goes_ Try.func24 (by kernel_rfl) rfl #[.agg #[.int .i64 t331, .slice Ao10 t332.length co10]] (by rfl) rfl rfl (by (try simp only [List.map_toArray, List.map_cons, List.map_nil]); first | done | rfl | (simp only [List.length_drop, List.length_take]; rfl)) ?_
     with_reducible refine (impl_ClausesValid.calls k t331 _ _ t332 t348 _ ?side1 ?side2 A19.out).mono ?_
     (case side1 => repeat (first | exact (Kd.S_reads' HO334.out).2.2 | (with_reducible refine Kd.C_alloc ?_ _) | (with_reducible refine Kd.C_drewN ?_ _) | (with_reducible refine Kd.C_drew ?_)))
     (case side2 => exact (Kd.S_reads' HO334.out).2.1)
     rintro e w24 ⟨rfl, hb⟩
     refine ⟨_, rfl, ?_⟩
     have n0_ := Aside0.mk (Kd.S_below (by (with_reducible repeat (first | apply Kd.S_alloc | apply Kd.S_drewN | apply Kd.S_drew)); exact HO334.out) hb)
     have n1_ := Aside0.mk (Kd.R_below (by (with_reducible repeat (first | apply Kd.R_alloc | apply Kd.R_drewN | apply Kd.R_drew)); exact HO337.out) hb)
     have n2_ := Aside0.mk (Kd.R_below (by (with_reducible repeat (first | apply Kd.R_alloc | apply Kd.R_drewN | apply Kd.R_drew)); exact HO341.out) hb)
     have n3_ := Aside0.mk (Kd.R_below (by (with_reducible repeat (first | apply Kd.R_alloc | apply Kd.R_drewN | apply Kd.R_drew)); exact HO345.out) hb)
     have n4_ := Aside0.mk (blk_below (g := gb338) (o := .cells #[.int .i64 t331, .slice Ao10 t332.length co10] 29 (0, 0)) (by (with_reducible repeat (first | refine blk_drewN ?_ _ | refine blk_drew ?_ | refine blk_alloc ?_ _)); exact BK338.out) hb)
     have n5_ := Aside0.mk (below_step (by repeat (first | (with_reducible first | exact HB.out | apply bwA | apply bwN | apply bwD | refine below_set ?_ GE338.out) | exact HB.out)) hb)
     clear HO334
     clear HO337
     clear HO341
     clear HO345
     clear BK338
     clear HB
     have HO334 := n0_
     have HO337 := n1_
     have HO341 := n2_
     have HO345 := n3_
     have BK338 := n4_
     have HB := n5_
     clear n0_ n1_ n2_ n3_ n4_ n5_
     (try clear hb)
     (try clear hb2)
     (try clear hk)
     (try clear hi)
     refine hK.out _ _ ⟨(blk_cell BK338.out 0).trans rfl, (blk_cell BK338.out 1).trans rfl⟩ (fun hHeld => ?_)
     clear hK K
     refine norm_ (a' := ?_) ?_ ?_
     rotate_left
     ·show Act.put _ (some 48) _ = _
      simp only [Act.put, List.setIfInBounds_toArray, List.set_cons_zero, List.set_cons_succ, i64_w, i32_w]
      rfl
     refine one_ (i := 13) (N := some 50) #[true, true, true, true, true, true, true, true, true, true, true, true, true, true, false, false] rfl rfl (one_of HT_.out (by kernel_rfl)) (by decide) (fun K hK => ?_)
     refine goes_ Try.func25 (by kernel_rfl) rfl #[.agg #[.int .i64 t331, .slice Ao10 t332.length co10]] (by rfl) rfl rfl (by (try simp only [List.map_toArray, List.map_cons, List.map_nil]); first | done | rfl | (simp only [List.length_drop, List.length_take]; rfl)) ?_
     with_reducible refine (spec_ClausesValid.calls k t331 _ _ t332 t349 _ ?side1 ?side2 A20.out).mono ?_
     (case side1 => repeat (first | exact (Kd.S_reads' HO334.out).2.2 | (with_reducible refine Kd.C_alloc ?_ _) | (with_reducible refine Kd.C_drewN ?_ _) | (with_reducible refine Kd.C_drew ?_)))
     (case side2 => exact (Kd.S_reads' HO334.out).2.1)
     rintro e w25 ⟨rfl, hb⟩
     refine ⟨_, rfl, ?_⟩
     have n0_ := Aside0.mk (Kd.S_below (by (with_reducible repeat (first | apply Kd.S_alloc | apply Kd.S_drewN | apply Kd.S_drew)); exact HO334.out) hb)
     have n1_ := Aside0.mk (Kd.R_below (by (with_reducible repeat (first | apply Kd.R_alloc | apply Kd.R_drewN | apply Kd.R_drew)); exact HO337.out) hb)
     have n2_ := Aside0.mk (Kd.R_below (by (with_reducible repeat (first | apply Kd.R_alloc | apply Kd.R_drewN | apply Kd.R_drew)); exact HO341.out) hb)
     have n3_ := Aside0.mk (Kd.R_below (by (with_reducible repeat (first | apply Kd.R_alloc | apply Kd.R_drewN | apply Kd.R_drew)); exact HO345.out) hb)
     have n4_ := Aside0.mk (blk_below (g := gb338) (o := .cells #[.int .i64 t331, .slice Ao10 t332.length co10] 29 (0, 0)) (by (with_reducible repeat (first | refine blk_drewN ?_ _ | refine blk_drew ?_ | refine blk_alloc ?_ _)); exact BK338.out) hb)
     have n5_ := Aside0.mk (below_step (by repeat (first | (with_reducible first | exact HB.out | apply bwA | apply bwN | apply bwD | refine below_set ?_ GE338.out) | exact HB.out)) hb)
     clear HO334
     clear HO337
     clear HO341
     clear HO345
     clear BK338
     clear HB
     have HO334 := n0_
     have HO337 := n1_
     have HO341 := n2_
     have HO345 := n3_
     have BK338 := n4_
     have HB := n5_
     clear n0_ n1_ n2_ n3_ n4_ n5_
     (try clear hb)
     (try clear hb2)
     (try clear hk)
     (try clear hi)
     refine hK.out _ _ ⟨(blk_cell BK338.out 0).trans rfl, (blk_cell BK338.out 1).trans rfl⟩ (fun hHeld => ?_)
     clear hK K
     refine norm_ (a' := ?_) ?_ ?_
     rotate_left
     ·show Act.put _ (some 50) _ = _
      simp only [Act.put, List.setIfInBounds_toArray, List.set_cons_zero, List.set_cons_succ, i64_w, i32_w]
      rfl
     refine pure_ (i := 14) (N := some 51) (v := ?_) (a' := ?_) #[true, true, true, true, true, true, true, true, true, true, true, true, true, true, true, false] rfl rfl (any_of HT_.out (by kernel_rfl)) (fun _ _ _ h => h) (Or.inl ⟨by rfl, ?_⟩) ?_ ?_
     rotate_left
     ·intro w'
      go_simp
      with_reducible rfl
     rotate_left
     ·simp only [Act.put, List.setIfInBounds_toArray, List.set_cons_zero, List.set_cons_succ, i64_w, i32_w]
      rfl
     refine pure_ (i := 15) (N := some 52) (v := ?_) (a' := ?_) #[true, true, true, true, true, true, true, true, true, true, true, true, true, true, true, true] rfl rfl (any_of HT_.out (by kernel_rfl)) (fun _ _ _ h => h) (Or.inl ⟨by rfl, ?_⟩) ?_ ?_
     rotate_left
     ·intro w'
      go_simp
      with_reducible rfl
     rotate_left
     ·simp only [Act.put, List.setIfInBounds_toArray, List.set_cons_zero, List.set_cons_succ, i64_w, i32_w]
      rfl
     refine done_ (done_of HT_.out (by kernel_rfl)) ?_
     try go_wp2
     go_meet
     case rel => exact ⟨_, ((t348 != t349)), (by first | rfl | (simp; done) | (simp [*]; done)), H', ⟨by first | omega | exact Nat.le_refl _⟩, ⟨by (with_reducible repeat (first | apply Kd.R_alloc | apply Kd.R_drewN | apply Kd.R_drew)); exact Kd.R_mono HO337.out (fun _ hk => hk.1.2)⟩, ⟨by (with_reducible repeat (first | apply Kd.R_alloc | apply Kd.R_drewN | apply Kd.R_drew)); exact Kd.R_mono HO341.out (fun _ hk => hk.1.2)⟩, ⟨by (with_reducible repeat (first | apply Kd.S_alloc | apply Kd.S_drewN | apply Kd.S_drew)); exact Kd.S_mono HO334.out (fun _ hk => ⟨hk.1.1, hk.1.2⟩)⟩, ⟨by (with_reducible repeat (first | refine blk_drewN ?_ _ | refine blk_drew ?_ | refine blk_alloc ?_ _)); exact BK338.out⟩, ⟨by repeat (first | (with_reducible first | exact HB.out | apply bwA | apply bwN | apply bwD | refine below_set ?_ GE338.out) | exact HB.out)⟩⟩
    ·replace c18 := Bool.eq_false_iff.mpr c18
     subst c18
     have H1 : (laws_FnForced.j0 k t335 t339 t342 true t331 t332) = some r := by rw [if_neg (show ¬ (false = true) by decide)] at H; exact H
     clear H
     have H := H1
     clear H1
     have H' := Aside0.mk H
     clear H
     try go_wp2
     have n0_ := Aside0.mk (Kd.S_drew HO334.out)
     have n1_ := Aside0.mk (Kd.R_drew HO337.out)
     have n2_ := Aside0.mk (Kd.R_drew HO341.out)
     have n3_ := Aside0.mk (Kd.R_drew HO345.out)
     have n4_ := Aside0.mk (blk_drew BK338.out)
     have n5_ := Aside0.mk (below_drew1 HB.out)
     clear HO334
     clear HO337
     clear HO341
     clear HO345
     clear BK338
     clear HB
     have HO334 := n0_
     have HO337 := n1_
     have HO341 := n2_
     have HO345 := n3_
     have BK338 := n4_
     have HB := n5_
     clear n0_ n1_ n2_ n3_ n4_ n5_
     obtain ⟨Ao27, co27, eo27⟩ := Kd.R_slice HO341.out
     (first | subst eo27 | (injection eo27 with f1_ f2_ f3_; have f4_ := f1_.symm; have f5_ := f3_.symm; clear f1_ f2_ f3_; subst f4_; subst f5_))
     obtain ⟨Ao28, co28, eo28⟩ := Kd.R_slice HO345.out
     (first | subst eo28 | (injection eo28 with f1_ f2_ f3_; have f4_ := f1_.symm; have f5_ := f3_.symm; clear f1_ f2_ f3_; subst f4_; subst f5_))
     refine start_ (n := 16) (S := fun w' => True) (ds := []) #[false, false, false, false, false, false, false, false, false, false, false, false, false, false, false, false] (by kernel_rfl) rfl rfl trivial (fun hHeld => ?_); refine with_tabW laws_FnForced.tab6 laws_FnForced.bits6 (fun HT_ HW_ => ?_)
     generalize w14.drew = w26 at HO334 HO337 HO341 HO345 BK338 HB hHeld ⊢
     refine pure_ (i := 0) (N := some 37) (v := ?_) (a' := ?_) #[true, false, false, false, false, false, false, false, false, false, false, false, false, false, false, false] rfl rfl (any_of HT_.out (by kernel_rfl)) (fun _ _ _ h => h) (Or.inl ⟨by rfl, ?_⟩) ?_ ?_
     rotate_left
     ·intro w'
      go_simp
      with_reducible rfl
     rotate_left
     ·simp only [Act.put, List.setIfInBounds_toArray, List.set_cons_zero, List.set_cons_succ, i64_w, i32_w]
      rfl
     refine pure_ (i := 1) (N := some 38) (v := ?_) (a' := ?_) #[true, true, false, false, false, false, false, false, false, false, false, false, false, false, false, false] rfl rfl (any_of HT_.out (by kernel_rfl)) (fun _ _ _ h => h) (Or.inl ⟨by rfl, ?_⟩) ?_ ?_
     rotate_left
     ·intro w'
      go_simp
      with_reducible rfl
     rotate_left
     ·simp only [Act.put, List.setIfInBounds_toArray, List.set_cons_zero, List.set_cons_succ, i64_w, i32_w]
      rfl
     refine pure_ (i := 2) (N := some 39) (v := ?_) (a' := ?_) #[true, true, true, false, false, false, false, false, false, false, false, false, false, false, false, false] rfl rfl (any_of HT_.out (by kernel_rfl)) (fun _ _ _ h => h) (Or.inl ⟨by rfl, ?_⟩) ?_ ?_
     rotate_left
     ·intro w'
      go_simp
      with_reducible rfl
     rotate_left
     ·simp only [Act.put, List.setIfInBounds_toArray, List.set_cons_zero, List.set_cons_succ, i64_w, i32_w]
      rfl
     refine pure_ (i := 3) (N := some 40) (v := ?_) (a' := ?_) #[true, true, true, true, false, false, false, false, false, false, false, false, false, false, false, false] rfl rfl (any_of HT_.out (by kernel_rfl)) (fun _ _ _ h => h) (Or.inl ⟨by rfl, ?_⟩) ?_ ?_
     rotate_left
     ·intro w'
      go_simp
      with_reducible rfl
     rotate_left
     ·simp only [Act.put, List.setIfInBounds_toArray, List.set_cons_zero, List.set_cons_succ, i64_w, i32_w]
      rfl
     refine pure_ (i := 4) (N := some 41) (v := ?_) (a' := ?_) #[true, true, true, true, true, false, false, false, false, false, false, false, false, false, false, false] rfl rfl (any_of HT_.out (by kernel_rfl)) (fun _ _ _ h => h) (Or.inl ⟨by rfl, ?_⟩) ?_ ?_
     rotate_left
     ·intro w'
      go_simp
      with_reducible rfl
     rotate_left
     ·simp only [Act.put, List.setIfInBounds_toArray, List.set_cons_zero, List.set_cons_succ, i64_w, i32_w]
      rfl
     refine pure_ (i := 5) (N := some 42) (v := ?_) (a' := ?_) #[true, true, true, true, true, true, false, false, false, false, false, false, false, false, false, false] rfl rfl (any_of HT_.out (by kernel_rfl)) (fun _ _ _ h => h) (Or.inl ⟨by rfl, ?_⟩) ?_ ?_
     rotate_left
     ·intro w'
      go_simp
      with_reducible rfl
     rotate_left
     ·simp only [Act.put, List.setIfInBounds_toArray, List.set_cons_zero, List.set_cons_succ, i64_w, i32_w]
      rfl
     refine one_ (i := 6) (N := some 43) #[true, true, true, true, true, true, true, false, false, false, false, false, false, false, false, false] rfl rfl (one_of HT_.out (by kernel_rfl)) (by decide) (fun K hK => ?_)
     refine goes_ Try.func23 (by kernel_rfl) rfl #[.slice Ao27 t339.length co27, .slice Ao28 t343.length co28] (by rfl) rfl rfl (by (try simp only [List.map_toArray, List.map_cons, List.map_nil]); first | done | rfl | (simp only [List.length_drop, List.length_take]; rfl)) ?_
     with_reducible refine (laws_wcInts.calls k _ _ t339 _ _ t343 false _ ?side1 ?side2 ?side3 ?side4 A17.out).mono ?_
     (case side1 => repeat (first | exact (Kd.R_reads' HO341.out).2.2 | (with_reducible refine Kd.C_alloc ?_ _) | (with_reducible refine Kd.C_drewN ?_ _) | (with_reducible refine Kd.C_drew ?_)))
     (case side2 => exact (Kd.R_reads' HO341.out).2.1)
     (case side3 => repeat (first | exact (Kd.R_reads' HO345.out).2.2 | (with_reducible refine Kd.C_alloc ?_ _) | (with_reducible refine Kd.C_drewN ?_ _) | (with_reducible refine Kd.C_drew ?_)))
     (case side4 => exact (Kd.R_reads' HO345.out).2.1)
     rintro e w' ⟨rfl, ⟨nd, rfl⟩⟩
     refine ⟨_, rfl, ?_⟩
     refine hK.out _ _ trivial (fun hHeld => ?_)
     clear hK K
     refine norm_ (a' := ?_) ?_ ?_
     rotate_left
     ·show Act.put _ (some 43) _ = _
      simp only [Act.put, List.setIfInBounds_toArray, List.set_cons_zero, List.set_cons_succ, i64_w, i32_w]
      rfl
     refine pure_ (i := 7) (N := some 44) (v := ?_) (a' := ?_) #[true, true, true, true, true, true, true, true, false, false, false, false, false, false, false, false] rfl rfl (any_of HT_.out (by kernel_rfl)) (fun _ _ _ h => h) (Or.inl ⟨by rfl, ?_⟩) ?_ ?_
     rotate_left
     ·intro w'
      go_simp
      with_reducible rfl
     rotate_left
     ·simp only [Act.put, List.setIfInBounds_toArray, List.set_cons_zero, List.set_cons_succ, i64_w, i32_w]
      rfl
     refine pure_ (i := 8) (N := some 45) (v := ?_) (a' := ?_) #[true, true, true, true, true, true, true, true, true, false, false, false, false, false, false, false] rfl rfl (any_of HT_.out (by kernel_rfl)) (fun _ _ _ h => h) (Or.inl ⟨by rfl, ?_⟩) ?_ ?_
     rotate_left
     ·intro w'
      go_simp
      with_reducible rfl
     rotate_left
     ·simp only [Act.put, List.setIfInBounds_toArray, List.set_cons_zero, List.set_cons_succ, i64_w, i32_w]
      rfl
     refine pure_ (i := 9) (N := some 46) (v := ?_) (a' := ?_) #[true, true, true, true, true, true, true, true, true, true, false, false, false, false, false, false] rfl rfl (any_of HT_.out (by kernel_rfl)) (fun _ _ _ h => h) (Or.inl ⟨by rfl, ?_⟩) ?_ ?_
     rotate_left
     ·intro w'
      go_simp
      with_reducible rfl
     rotate_left
     ·simp only [Act.put, List.setIfInBounds_toArray, List.set_cons_zero, List.set_cons_succ, i64_w, i32_w]
      rfl
     refine pure_ (i := 10) (N := some 47) (v := undef) (a' := ?_) #[true, true, true, true, true, true, true, true, true, true, true, false, false, false, false, false] rfl rfl (any_of HT_.out (by kernel_rfl)) (fun _ _ _ h => h) (Or.inr ⟨by rfl, rfl⟩) ?_ ?_
     rotate_left
     ·simp only [Act.put, List.setIfInBounds_toArray, List.set_cons_zero, List.set_cons_succ, i64_w, i32_w]
      rfl
     refine pure_ (i := 11) (N := some 48) (v := undef) (a' := ?_) #[true, true, true, true, true, true, true, true, true, true, true, true, false, false, false, false] rfl rfl (any_of HT_.out (by kernel_rfl)) (fun _ _ _ h => h) (Or.inr ⟨by rfl, rfl⟩) ?_ ?_
     rotate_left
     ·simp only [Act.put, List.setIfInBounds_toArray, List.set_cons_zero, List.set_cons_succ, i64_w, i32_w]
      rfl
     refine pure_ (i := 12) (N := some 49) (v := undef) (a' := ?_) #[true, true, true, true, true, true, true, true, true, true, true, true, true, false, false, false] rfl rfl (any_of HT_.out (by kernel_rfl)) (fun _ _ _ h => h) (Or.inr ⟨by rfl, rfl⟩) ?_ ?_
     rotate_left
     ·simp only [Act.put, List.setIfInBounds_toArray, List.set_cons_zero, List.set_cons_succ, i64_w, i32_w]
      rfl
     refine pure_ (i := 13) (N := some 50) (v := undef) (a' := ?_) #[true, true, true, true, true, true, true, true, true, true, true, true, true, true, false, false] rfl rfl (any_of HT_.out (by kernel_rfl)) (fun _ _ _ h => h) (Or.inr ⟨by rfl, rfl⟩) ?_ ?_
     rotate_left
     ·simp only [Act.put, List.setIfInBounds_toArray, List.set_cons_zero, List.set_cons_succ, i64_w, i32_w]
      rfl
     refine pure_ (i := 14) (N := some 51) (v := undef) (a' := ?_) #[true, true, true, true, true, true, true, true, true, true, true, true, true, true, true, false] rfl rfl (any_of HT_.out (by kernel_rfl)) (fun _ _ _ h => h) (Or.inr ⟨by rfl, rfl⟩) ?_ ?_
     rotate_left
     ·simp only [Act.put, List.setIfInBounds_toArray, List.set_cons_zero, List.set_cons_succ, i64_w, i32_w]
      rfl
     refine pure_ (i := 15) (N := some 52) (v := ?_) (a' := ?_) #[true, true, true, true, true, true, true, true, true, true, true, true, true, true, true, true] rfl rfl (any_of HT_.out (by kernel_rfl)) (fun _ _ _ h => h) (Or.inl ⟨by rfl, ?_⟩) ?_ ?_
     rotate_left
     ·intro w'
      go_simp
      with_reducible rfl
     rotate_left
     ·simp only [Act.put, List.setIfInBounds_toArray, List.set_cons_zero, List.set_cons_succ, i64_w, i32_w]
      rfl
     refine done_ (done_of HT_.out (by kernel_rfl)) ?_
     try go_wp2
     go_meet
     case rel => exact ⟨_, (true), (by first | rfl | (simp; done) | (simp [*]; done)), H', ⟨by first | omega | exact Nat.le_refl _⟩, ⟨by (with_reducible repeat (first | apply Kd.R_alloc | apply Kd.R_drewN | apply Kd.R_drew)); exact Kd.R_mono HO337.out (fun _ hk => hk.1.2)⟩, ⟨by (with_reducible repeat (first | apply Kd.R_alloc | apply Kd.R_drewN | apply Kd.R_drew)); exact Kd.R_mono HO341.out (fun _ hk => hk.1.2)⟩, ⟨by (with_reducible repeat (first | apply Kd.S_alloc | apply Kd.S_drewN | apply Kd.S_drew)); exact Kd.S_mono HO334.out (fun _ hk => ⟨hk.1.1, hk.1.2⟩)⟩, ⟨by (with_reducible repeat (first | refine blk_drewN ?_ _ | refine blk_drew ?_ | refine blk_alloc ?_ _)); exact BK338.out⟩, ⟨by repeat (first | (with_reducible first | exact HB.out | apply bwA | apply bwN | apply bwD | refine below_set ?_ GE338.out) | exact HB.out)⟩⟩
  case rest =>
   clear HC6
   try clear c1
   try clear c2
   try clear c2b0
   try clear c2b1
   try clear p2
   try clear c4
   try clear c13
   try clear c15
   try clear c15b0
   try clear c15b1
   try clear c15b2
   try clear c16
   try clear c18
   try clear c22
   try clear c23
   try clear c24
   try clear c25
   try clear hcz13_0
   try clear hcz13_1
   try clear hcz9_0
   try clear hcz9_1
   try clear hfz13_0
   try clear hfz13_1
   try clear hfz9_0
   try clear hfz9_1
   obtain ⟨kq, x52_5, rfl, HA, HJ5, HO_4, HO_5, HO_339001, BK338, HB⟩ := hcut
   cases kq with
   | zero => exact absurd HA.out (by simp [laws_FnForced.j0])
   | succ kj5 =>
    have H := HA.out
    clear HA
    simp only [laws_FnForced.j0] at H
    by_cases c29 : x52_5 = true
    ·subst c29
     have H1 : (some false) = some r := by rw [if_pos rfl] at H; exact H
     clear H
     have H := H1
     clear H1
     obtain rfl := Option.some.inj H
     go_wp2
     go_ret
     exact ⟨by first | rfl | (simp [errW_none, errW_some] <;> rfl) | (simp [*, errW_none, errW_some] <;> rfl), by repeat (first | (with_reducible first | exact HB.out | apply bwA | apply bwN | apply bwD | refine below_set ?_ GE338.out) | exact HB.out)⟩
    ·replace c29 := Bool.eq_false_iff.mpr c29
     subst c29
     have H1 : ((spec_ClausesValid.f kj5 t331 t332).bind fun t350 => (if t350 = true then ((spec_ClauseValid.f kj5 t335 t331).bind fun t351 => (laws_FnForced.j1 kj5 t335 t339 t342 (!t351) t331 t332)) else (laws_FnForced.j1 kj5 t335 t339 t342 true t331 t332))) = some r := by rw [if_neg (show ¬ (false = true) by decide)] at H; exact H
     clear H
     have H := H1
     clear H1
     have HC30 := Aside0.mk H
     clear H
     go_upto_region 8 with (fail)
     go_cut [62] (fun v62 wc => ∃ (kq : Nat) (x62_29 : Bool), v62 = .bool x62_29 ∧ Aside0 (laws_FnForced.j1 kq t335 t339 t342 x62_29 t331 t332 = some r) ∧ Aside0 (kq ≤ kj5) ∧ Aside0 (Kd.R (Kd.int .i64) 3 wc w.heap.size (fun k_ => some k_ ≠ (v340 : Value).ownBlock) (.slice Ao11 t335.length co11) t335) ∧ Aside0 (Kd.R (Kd.int .i64) 3 wc w.heap.size (fun k_ => some k_ ≠ ((.slice Ao11 t335.length co11) : Value).ownBlock) v340 t339) ∧ Aside0 (Kd.S (Kd.slice 3 (Kd.int .i64)) 25 wc w.heap.size (fun k_ => some k_ ≠ ((.slice Ao11 t335.length co11) : Value).ownBlock ∧ some k_ ≠ (v340 : Value).ownBlock) (.slice Ao10 t332.length co10) t332) ∧ Aside0 (wc.heap[gb338]? = some (.cells #[.int .i64 t331, (.slice Ao10 t332.length co10)] 29 (0, 0))) ∧ Aside0 (Below w.heap.size w wc))
     case first =>
      have H := HC30.out
      clear HC30
      replace H := Option.bind_eq_some_iff.mp H
      obtain ⟨t350, A310, H⟩ := H
      replace H : (if t350 = true then ((spec_ClauseValid.f kj5 t335 t331).bind fun t351 => (laws_FnForced.j1 kj5 t335 t339 t342 (!t351) t331 t332)) else (laws_FnForced.j1 kj5 t335 t339 t342 true t331 t332)) = some r := H
      have A31 := Aside0.mk A310
      clear A310
      by_cases c32 : t350 = true
      ·subst c32
       have H1 : ((spec_ClauseValid.f kj5 t335 t331).bind fun t351 => (laws_FnForced.j1 kj5 t335 t339 t342 (!t351) t331 t332)) = some r := by rw [if_pos rfl] at H; exact H
       clear H
       have H := H1
       clear H1
       replace H := Option.bind_eq_some_iff.mp H
       obtain ⟨t351, A330, H⟩ := H
       replace H : (laws_FnForced.j1 kj5 t335 t339 t342 (!t351) t331 t332) = some r := H
       have A33 := Aside0.mk A330
       clear A330
       have H' := Aside0.mk H
       clear H
       have hcz34_0 : wc.cell? ⟨gb338, 0, none⟩ = some (.int .i64 t331) := (blk_cell BK338.out 0).trans rfl
       have hcz34_1 : wc.cell? ⟨gb338, 1, none⟩ = some (.slice Ao10 t332.length co10) := (blk_cell BK338.out 1).trans rfl
       have hfz34_0 := blk_frozen BK338.out 0
       have hfz34_1 := blk_frozen BK338.out 1
       go_wp2_with (first | ((with_reducible refine gate_callee (f := 25) rfl ?_); refine goesL_ (some 54) rfl rfl Try.func25 (by kernel_rfl) rfl #[.agg #[.int .i64 t331, .slice Ao10 t332.length co10]] rfl (by (try simp only [List.map_toArray, List.map_cons, List.map_nil]); first | done | rfl | (simp only [List.length_drop, List.length_take]; rfl)) ?_; (with_reducible refine (spec_ClausesValid.calls kj5 t331 _ _ t332 true _ ?side1 ?side2 A31.out).mono ?_); (case side1 => repeat (first | exact (Kd.S_reads' HO_339001.out).2.2 | (with_reducible refine Kd.C_alloc ?_ _) | (with_reducible refine Kd.C_drewN ?_ _) | (with_reducible refine Kd.C_drew ?_))); (case side2 => exact (Kd.S_reads' HO_339001.out).2.1); rintro e w35 ⟨rfl, hb⟩; refine ⟨_, rfl, ?_⟩; have n0_ := Aside0.mk (Kd.R_below (by (with_reducible repeat (first | apply Kd.R_alloc | apply Kd.R_drewN | apply Kd.R_drew)); exact HO_4.out) hb); have n1_ := Aside0.mk (Kd.R_below (by (with_reducible repeat (first | apply Kd.R_alloc | apply Kd.R_drewN | apply Kd.R_drew)); exact HO_5.out) hb); have n2_ := Aside0.mk (Kd.S_below (by (with_reducible repeat (first | apply Kd.S_alloc | apply Kd.S_drewN | apply Kd.S_drew)); exact HO_339001.out) hb); have n3_ := Aside0.mk (blk_below (g := gb338) (o := .cells #[.int .i64 t331, .slice Ao10 t332.length co10] 29 (0, 0)) (by (with_reducible repeat (first | refine blk_drewN ?_ _ | refine blk_drew ?_ | refine blk_alloc ?_ _)); exact BK338.out) hb); have n4_ := Aside0.mk (below_step (by repeat (first | (with_reducible first | exact HB.out | apply bwA | apply bwN | apply bwD | refine below_set ?_ GE338.out) | exact HB.out)) hb); clear HO_4; clear HO_5; clear HO_339001; clear BK338; clear HB; have HO_4 := n0_; have HO_5 := n1_; have HO_339001 := n2_; have BK338 := n3_; have HB := n4_; clear n0_ n1_ n2_ n3_ n4_; (try clear hb); (try clear hb2); (try clear hk); (try clear hi); have hcz36_0 : w35.cell? ⟨gb338, 0, none⟩ = some (.int .i64 t331) := (blk_cell BK338.out 0).trans rfl; have hcz36_1 : w35.cell? ⟨gb338, 1, none⟩ = some (.slice Ao10 t332.length co10) := (blk_cell BK338.out 1).trans rfl; have hfz36_0 := blk_frozen BK338.out 0; have hfz36_1 := blk_frozen BK338.out 1) | (go_at_call 26; (with_reducible refine (spec_ClauseValid.calls kj5 _ _ t335 t331 t351 _ ?side1 ?side2 A33.out).mono ?_); (case side1 => repeat (first | exact (Kd.R_reads' HO_4.out).2.2 | (with_reducible refine Kd.C_alloc ?_ _) | (with_reducible refine Kd.C_drewN ?_ _) | (with_reducible refine Kd.C_drew ?_))); (case side2 => exact (Kd.R_reads' HO_4.out).2.1); rintro e w' ⟨rfl, ⟨nd, rfl⟩⟩))
       go_meet
       case rel => exact ⟨_, (!t351), (by first | rfl | (simp; done) | (simp [*]; done)), H', ⟨by have := HJ5.out; first | omega | exact Nat.le_refl _⟩, ⟨by (with_reducible repeat (first | apply Kd.R_alloc | apply Kd.R_drewN | apply Kd.R_drew)); exact HO_4.out⟩, ⟨by (with_reducible repeat (first | apply Kd.R_alloc | apply Kd.R_drewN | apply Kd.R_drew)); exact HO_5.out⟩, ⟨by (with_reducible repeat (first | apply Kd.S_alloc | apply Kd.S_drewN | apply Kd.S_drew)); exact HO_339001.out⟩, ⟨by (with_reducible repeat (first | refine blk_drewN ?_ _ | refine blk_drew ?_ | refine blk_alloc ?_ _)); exact BK338.out⟩, ⟨by repeat (first | (with_reducible first | exact HB.out | apply bwA | apply bwN | apply bwD | refine below_set ?_ GE338.out) | exact HB.out)⟩⟩
      ·replace c32 := Bool.eq_false_iff.mpr c32
       subst c32
       have H1 : (laws_FnForced.j1 kj5 t335 t339 t342 true t331 t332) = some r := by rw [if_neg (show ¬ (false = true) by decide)] at H; exact H
       clear H
       have H := H1
       clear H1
       have H' := Aside0.mk H
       clear H
       have hcz37_0 : wc.cell? ⟨gb338, 0, none⟩ = some (.int .i64 t331) := (blk_cell BK338.out 0).trans rfl
       have hcz37_1 : wc.cell? ⟨gb338, 1, none⟩ = some (.slice Ao10 t332.length co10) := (blk_cell BK338.out 1).trans rfl
       have hfz37_0 := blk_frozen BK338.out 0
       have hfz37_1 := blk_frozen BK338.out 1
       go_wp2_with (first | ((with_reducible refine gate_callee (f := 25) rfl ?_); refine goesL_ (some 54) rfl rfl Try.func25 (by kernel_rfl) rfl #[.agg #[.int .i64 t331, .slice Ao10 t332.length co10]] rfl (by (try simp only [List.map_toArray, List.map_cons, List.map_nil]); first | done | rfl | (simp only [List.length_drop, List.length_take]; rfl)) ?_; (with_reducible refine (spec_ClausesValid.calls kj5 t331 _ _ t332 false _ ?side1 ?side2 A31.out).mono ?_); (case side1 => repeat (first | exact (Kd.S_reads' HO_339001.out).2.2 | (with_reducible refine Kd.C_alloc ?_ _) | (with_reducible refine Kd.C_drewN ?_ _) | (with_reducible refine Kd.C_drew ?_))); (case side2 => exact (Kd.S_reads' HO_339001.out).2.1); rintro e w38 ⟨rfl, hb⟩; refine ⟨_, rfl, ?_⟩; have n0_ := Aside0.mk (Kd.R_below (by (with_reducible repeat (first | apply Kd.R_alloc | apply Kd.R_drewN | apply Kd.R_drew)); exact HO_4.out) hb); have n1_ := Aside0.mk (Kd.R_below (by (with_reducible repeat (first | apply Kd.R_alloc | apply Kd.R_drewN | apply Kd.R_drew)); exact HO_5.out) hb); have n2_ := Aside0.mk (Kd.S_below (by (with_reducible repeat (first | apply Kd.S_alloc | apply Kd.S_drewN | apply Kd.S_drew)); exact HO_339001.out) hb); have n3_ := Aside0.mk (blk_below (g := gb338) (o := .cells #[.int .i64 t331, .slice Ao10 t332.length co10] 29 (0, 0)) (by (with_reducible repeat (first | refine blk_drewN ?_ _ | refine blk_drew ?_ | refine blk_alloc ?_ _)); exact BK338.out) hb); have n4_ := Aside0.mk (below_step (by repeat (first | (with_reducible first | exact HB.out | apply bwA | apply bwN | apply bwD | refine below_set ?_ GE338.out) | exact HB.out)) hb); clear HO_4; clear HO_5; clear HO_339001; clear BK338; clear HB; have HO_4 := n0_; have HO_5 := n1_; have HO_339001 := n2_; have BK338 := n3_; have HB := n4_; clear n0_ n1_ n2_ n3_ n4_; (try clear hb); (try clear hb2); (try clear hk); (try clear hi)))
       go_meet
       case rel => exact ⟨_, (true), (by first | rfl | (simp; done) | (simp [*]; done)), H', ⟨by have := HJ5.out; first | omega | exact Nat.le_refl _⟩, ⟨by (with_reducible repeat (first | apply Kd.R_alloc | apply Kd.R_drewN | apply Kd.R_drew)); exact HO_4.out⟩, ⟨by (with_reducible repeat (first | apply Kd.R_alloc | apply Kd.R_drewN | apply Kd.R_drew)); exact HO_5.out⟩, ⟨by (with_reducible repeat (first | apply Kd.S_alloc | apply Kd.S_drewN | apply Kd.S_drew)); exact HO_339001.out⟩, ⟨by (with_reducible repeat (first | refine blk_drewN ?_ _ | refine blk_drew ?_ | refine blk_alloc ?_ _)); exact BK338.out⟩, ⟨by repeat (first | (with_reducible first | exact HB.out | apply bwA | apply bwN | apply bwD | refine below_set ?_ GE338.out) | exact HB.out)⟩⟩
     case rest =>
      clear HC30
      try clear c1
      try clear c2
      try clear c2b0
      try clear c2b1
      try clear p2
      try clear c3
      try clear c4
      try clear c13
      try clear c15
      try clear c15b0
      try clear c15b1
      try clear c15b2
      try clear c16
      try clear c18
      try clear c22
      try clear c23
      try clear c24
      try clear c25
      try clear c29
      try clear c32
      try clear hcz13_0
      try clear hcz13_1
      try clear hcz34_0
      try clear hcz34_1
      try clear hcz36_0
      try clear hcz36_1
      try clear hcz37_0
      try clear hcz37_1
      try clear hcz9_0
      try clear hcz9_1
      try clear hfz13_0
      try clear hfz13_1
      try clear hfz34_0
      try clear hfz34_1
      try clear hfz36_0
      try clear hfz36_1
      try clear hfz37_0
      try clear hfz37_1
      try clear hfz9_0
      try clear hfz9_1
      try clear p2
      obtain ⟨kq, x62_29, rfl, HA, HJ29, HO_4, HO_5, HO_339001, BK338, HB⟩ := hcut
      cases kq with
      | zero => exact absurd HA.out (by simp [laws_FnForced.j1])
      | succ kj29 =>
       have H := HA.out
       clear HA
       simp only [laws_FnForced.j1] at H
       by_cases c39 : x62_29 = true
       ·subst c39
        have H1 : (if t342 = true then (some false) else (some ((t339.length : Int) == 0))) = some r := by rw [if_pos rfl] at H; exact H
        clear H
        have H := H1
        clear H1
        by_cases c40 : t342 = true
        ·subst c40
         have H1 : (some false) = some r := by rw [if_pos rfl] at H; exact H
         clear H
         have H := H1
         clear H1
         obtain rfl := Option.some.inj H
         go_wp2
         go_ret
         exact ⟨by first | rfl | (simp [errW_none, errW_some] <;> rfl) | (simp [*, errW_none, errW_some] <;> rfl), by repeat (first | (with_reducible first | exact HB.out | apply bwA | apply bwN | apply bwD | refine below_set ?_ GE338.out) | exact HB.out)⟩
        ·replace c40 := Bool.eq_false_iff.mpr c40
         subst c40
         have H1 : (some ((t339.length : Int) == 0)) = some r := by rw [if_neg (show ¬ (false = true) by decide)] at H; exact H
         clear H
         have H := H1
         clear H1
         obtain rfl := Option.some.inj H
         obtain ⟨Ao41, co41, eo41⟩ := Kd.R_slice HO_5.out
         subst eo41
         go_wp2
         go_ret
         exact ⟨by first | rfl | (simp [errW_none, errW_some] <;> rfl) | (simp [*, errW_none, errW_some] <;> rfl), by repeat (first | (with_reducible first | exact HB.out | apply bwA | apply bwN | apply bwD | refine below_set ?_ GE338.out) | exact HB.out)⟩
       ·replace c39 := Bool.eq_false_iff.mpr c39
        subst c39
        have H1 : (if 0 ≤ t331 then (laws_FnForced.l0 kj29 t335 t339 t342 (shl .i64 1 t331) 0 t331 t332) else (none)) = some r := by rw [if_neg (show ¬ (false = true) by decide)] at H; exact H
        clear H
        have H := H1
        clear H1
        by_cases c42 : 0 ≤ t331
        ·rw [if_pos c42] at H
         have c42b0 := eq_true c42
         have c42b1 : decide (0 ≤ t331) = true := decide_eq_true c42
         clear c42
         obtain ⟨ji43, hji43⟩ : ∃ j_ : Int, (shl .i64 1 t331) = j_ := ⟨_, rfl⟩
         replace H : (laws_FnForced.l0 kj29 t335 t339 t342 ji43 0 t331 t332) = some r := by first | (rw [hji43] at H; exact H) | (simp only [hji43] at H ⊢; exact H)
         have hji43_ : (IntKind.i64.wrap (1 * 2 ^ min t331.toNat 64)) = ji43 := hji43
         have hji43z : t331 ≤ 64 → (IntKind.i64.wrap (1 * 2 ^ t331.toNat)) = ji43 := shl_small hji43
         have hji43u : (IntKind.i64.wrap (2 ^ min t331.toNat 64)) = ji43 := by have h_ := hji43_; rw [Int.one_mul] at h_; exact h_
         have hji43v : t331 ≤ 64 → (IntKind.i64.wrap (2 ^ t331.toNat)) = ji43 := fun hle_ => by have h_ := hji43z hle_; rw [Int.one_mul] at h_; exact h_
         have hji43y : (wrap64 (1 * 2 ^ min t331.toNat 64)) = ji43 := (i64_w _).symm.trans hji43_
         have hji43x : t331 ≤ 64 → (wrap64 (1 * 2 ^ t331.toNat)) = ji43 := fun h_ => (i64_w _).symm.trans (hji43z h_)
         have H' := Aside0.mk H
         clear H
         have hcz44_0 : wc.cell? ⟨gb338, 0, none⟩ = some (.int .i64 t331) := (blk_cell BK338.out 0).trans rfl
         have hcz44_1 : wc.cell? ⟨gb338, 1, none⟩ = some (.slice Ao10 t332.length co10) := (blk_cell BK338.out 1).trans rfl
         have hfz44_0 := blk_frozen BK338.out 0
         have hfz44_1 := blk_frozen BK338.out 1
         go_wp2
         go_loopg [73] kj29 (fun kq v73 w' => ∃ (x73_3 : Int), v73 = .int .i64 x73_3 ∧ Aside0 (laws_FnForced.l0 kq t335 t339 t342 ji43 x73_3 t331 t332 = some r) ∧ Aside0 (kq ≤ kj29) ∧ Aside0 (Kd.R (Kd.int .i64) 3 w' w.heap.size (fun k_ => some k_ ≠ (v340 : Value).ownBlock) (.slice Ao11 t335.length co11) t335) ∧ Aside0 (Kd.R (Kd.int .i64) 3 w' w.heap.size (fun k_ => some k_ ≠ ((.slice Ao11 t335.length co11) : Value).ownBlock) v340 t339) ∧ Aside0 (Kd.S (Kd.slice 3 (Kd.int .i64)) 25 w' w.heap.size (fun k_ => some k_ ≠ ((.slice Ao11 t335.length co11) : Value).ownBlock ∧ some k_ ≠ (v340 : Value).ownBlock) (.slice Ao10 t332.length co10) t332) ∧ Aside0 (w'.heap[gb338]? = some (.cells #[.int .i64 t331, (.slice Ao10 t332.length co10)] 29 (0, 0))) ∧ Aside0 (Below w.heap.size w w'))
         case atStart => exact ⟨(0), (by first | rfl | (simp; done) | (simp [*]; done)), H', ⟨Nat.le_refl _⟩, ⟨by (with_reducible repeat (first | apply Kd.R_alloc | apply Kd.R_drewN | apply Kd.R_drew)); exact HO_4.out⟩, ⟨by (with_reducible repeat (first | apply Kd.R_alloc | apply Kd.R_drewN | apply Kd.R_drew)); exact HO_5.out⟩, ⟨by (with_reducible repeat (first | apply Kd.S_alloc | apply Kd.S_drewN | apply Kd.S_drew)); exact HO_339001.out⟩, ⟨by (with_reducible repeat (first | refine blk_drewN ?_ _ | refine blk_drew ?_ | refine blk_alloc ?_ _)); exact BK338.out⟩, ⟨by repeat (first | (with_reducible first | exact HB.out | apply bwA | apply bwN | apply bwD | refine below_set ?_ GE338.out) | exact HB.out)⟩⟩
         case round =>
          clear H'
          try clear c1
          try clear c2
          try clear c2b0
          try clear c2b1
          try clear p2
          try clear c3
          try clear c4
          try clear p6
          try clear c13
          try clear c15
          try clear c15b0
          try clear c15b1
          try clear c15b2
          try clear c16
          try clear c18
          try clear c22
          try clear c23
          try clear c24
          try clear c25
          try clear c29
          try clear c32
          try clear c39
          try clear c40
          try clear c42
          try clear c42b0
          try clear c42b1
          try clear hcz13_0
          try clear hcz13_1
          try clear hcz34_0
          try clear hcz34_1
          try clear hcz36_0
          try clear hcz36_1
          try clear hcz37_0
          try clear hcz37_1
          try clear hcz44_0
          try clear hcz44_1
          try clear hcz9_0
          try clear hcz9_1
          try clear hfz13_0
          try clear hfz13_1
          try clear hfz34_0
          try clear hfz34_1
          try clear hfz36_0
          try clear hfz36_1
          try clear hfz37_0
          try clear hfz37_1
          try clear hfz44_0
          try clear hfz44_1
          try clear hfz9_0
          try clear hfz9_1
          try clear p2
          obtain ⟨x73_3, rfl, HA, HK3, HO_4, HO_5, HO_339001, BK338, HB⟩ := hrel
          cases gk with
          | zero => exact absurd HA.out (by simp [laws_FnForced.l0])
          | succ k3 =>
           have H := HA.out
           clear HA
           simp only [laws_FnForced.l0] at H
           by_cases c45 : x73_3 < ji43
           ·rw [if_pos c45] at H
            have c45b0 : decide (x73_3 < ji43) = true := decide_eq_true c45
            clear c45
            obtain ⟨y352, hy352⟩ : ∃ y_ : List Int, y_ = (([] : List Int)) := ⟨_, rfl⟩
            replace H : (laws_FnForced.l1 k3 t335 t339 t342 x73_3 y352 ji43 x73_3 t331 0 t331 t332) = some r := by first | (rw [hy352]; with_reducible exact H) | (have H2_ := (Option.bind_some _ _).symm.trans H; rw [hy352]; with_reducible exact H2_) | (have H2_ := (Option.bind_some _ _).symm.trans H; with_reducible exact H2_) | with_reducible exact H | (rw [hy352]; exact H) | exact H
            have Ny352 := Aside0.mk hy352
            clear hy352
            have H' := Aside0.mk H
            clear H
            go_wp2_with (first | ((with_reducible refine gate_dst (N := 76) rfl ?_); refine Kd.R_lit (Kd.int .i64) _ 3 ?hg (N := 76) ?hd (xs := ([] : List Int)) (inner := []) (ok := fun _ => True) (okp := fun _ => True) ?hr ?hp (fun _ hk => hk) trivial (Below.refl _ _) (Nat.le_refl _) (by simp) ?_; (case hd => rfl); (case hg => rfl); (case hr => first | (go_simp; done) | (go_simp; rfl)); (case hp => exact (Reps.none _ _)); intro v353 w46 ho47 hb hg_ hnew_; clear hg_ hnew_; (first | rw [← Ny352.out] at ho47 | (simp only [Int.reduceToNat] at ho47; rw [← Ny352.out] at ho47)); have n0_ := Aside0.mk (Kd.R_elder' (by (with_reducible repeat (first | apply Kd.R_alloc | apply Kd.R_drewN | apply Kd.R_drew)); exact HO_4.out) (Kd.R_base ho47) hb); have n1_ := Aside0.mk (Kd.R_elder' (by (with_reducible repeat (first | apply Kd.R_alloc | apply Kd.R_drewN | apply Kd.R_drew)); exact HO_5.out) (Kd.R_base ho47) hb); have n2_ := Aside0.mk (Kd.S_elder' (by (with_reducible repeat (first | apply Kd.S_alloc | apply Kd.S_drewN | apply Kd.S_drew)); exact HO_339001.out) (Kd.R_base ho47) hb); have n3_ := Aside0.mk (Kd.R_lower (Kd.R_new' (Kd.R_new' ho47 (Kd.R_lt (by (with_reducible repeat (first | apply Kd.R_alloc | apply Kd.R_drewN | apply Kd.R_drew)); exact HO_4.out))) (Kd.R_lt (by (with_reducible repeat (first | apply Kd.R_alloc | apply Kd.R_drewN | apply Kd.R_drew)); exact HO_5.out))) (below_size (by repeat (first | (with_reducible first | exact HB.out | apply bwA | apply bwN | apply bwD | refine below_set ?_ GE338.out) | exact HB.out)))); have n4_ := Aside0.mk (blk_below (g := gb338) (o := .cells #[.int .i64 t331, .slice Ao10 t332.length co10] 29 (0, 0)) (by (with_reducible repeat (first | refine blk_drewN ?_ _ | refine blk_drew ?_ | refine blk_alloc ?_ _)); exact BK338.out) hb); have n5_ := Aside0.mk (below_step (by repeat (first | (with_reducible first | exact HB.out | apply bwA | apply bwN | apply bwD | refine below_set ?_ GE338.out) | exact HB.out)) hb); clear HO_4; clear HO_5; clear HO_339001; clear BK338; clear HB; have HO_4 := n0_; have HO_5 := n1_; have HO_339001 := n2_; have HO354 := n3_; have BK338 := n4_; have HB := n5_; clear n0_ n1_ n2_ n3_ n4_ n5_; clear hb ho47; have hcz48_0 : w46.cell? ⟨gb338, 0, none⟩ = some (.int .i64 t331) := (blk_cell BK338.out 0).trans rfl; have hcz48_1 : w46.cell? ⟨gb338, 1, none⟩ = some (.slice Ao10 t332.length co10) := (blk_cell BK338.out 1).trans rfl; have hfz48_0 := blk_frozen BK338.out 0; have hfz48_1 := blk_frozen BK338.out 1))
            go_loopg [10, 79] k3 (fun kq v10 v79 w' => ∃ (x10_4 : List Int) (x79_4 : Int), v79 = .int .i64 x79_4 ∧ Aside0 (laws_FnForced.l1 kq t335 t339 t342 x73_3 x10_4 ji43 x73_3 t331 x79_4 t331 t332 = some r) ∧ Aside0 (kq ≤ k3) ∧ Aside0 (Kd.R (Kd.int .i64) 3 w' w.heap.size (fun k_ => some k_ ≠ (v340 : Value).ownBlock ∧ some k_ ≠ (v10 : Value).ownBlock) (.slice Ao11 t335.length co11) t335) ∧ Aside0 (Kd.R (Kd.int .i64) 3 w' w.heap.size (fun k_ => some k_ ≠ ((.slice Ao11 t335.length co11) : Value).ownBlock ∧ some k_ ≠ (v10 : Value).ownBlock) v340 t339) ∧ Aside0 (Kd.R (Kd.int .i64) 3 w' w.heap.size (fun k_ => some k_ ≠ ((.slice Ao11 t335.length co11) : Value).ownBlock ∧ some k_ ≠ (v340 : Value).ownBlock) v10 x10_4) ∧ Aside0 (Kd.S (Kd.slice 3 (Kd.int .i64)) 25 w' w.heap.size (fun k_ => some k_ ≠ ((.slice Ao11 t335.length co11) : Value).ownBlock ∧ some k_ ≠ (v340 : Value).ownBlock ∧ some k_ ≠ (v10 : Value).ownBlock) (.slice Ao10 t332.length co10) t332) ∧ Aside0 (w'.heap[gb338]? = some (.cells #[.int .i64 t331, (.slice Ao10 t332.length co10)] 29 (0, 0))) ∧ Aside0 (Below w.heap.size w w'))
            case atStart => exact ⟨(y352), (0), (by first | rfl | (simp; done) | (simp [*]; done)), H', ⟨Nat.le_refl _⟩, ⟨by (with_reducible repeat (first | apply Kd.R_alloc | apply Kd.R_drewN | apply Kd.R_drew)); exact HO_4.out⟩, ⟨by (with_reducible repeat (first | apply Kd.R_alloc | apply Kd.R_drewN | apply Kd.R_drew)); exact HO_5.out⟩, ⟨by (with_reducible repeat (first | apply Kd.R_alloc | apply Kd.R_drewN | apply Kd.R_drew)); exact Kd.R_mono HO354.out (fun _ hk => ⟨hk.1.2, hk.2⟩)⟩, ⟨by (with_reducible repeat (first | apply Kd.S_alloc | apply Kd.S_drewN | apply Kd.S_drew)); exact Kd.S_mono HO_339001.out (fun _ hk => ⟨hk.1.1, ⟨hk.1.2, hk.2⟩⟩)⟩, ⟨by (with_reducible repeat (first | refine blk_drewN ?_ _ | refine blk_drew ?_ | refine blk_alloc ?_ _)); exact BK338.out⟩, ⟨by repeat (first | (with_reducible first | exact HB.out | apply bwA | apply bwN | apply bwD | refine below_set ?_ GE338.out) | exact HB.out)⟩⟩
            case round =>
             clear H'
             try clear c1
             try clear c2
             try clear c2b0
             try clear c2b1
             try clear p2
             try clear c3
             try clear c4
             try clear p6
             try clear c13
             try clear c15
             try clear c15b0
             try clear c15b1
             try clear c15b2
             try clear c16
             try clear c18
             try clear c22
             try clear c23
             try clear c24
             try clear c25
             try clear c29
             try clear c32
             try clear c39
             try clear c40
             try clear c42
             try clear c42b0
             try clear c42b1
             try clear c45
             try clear c45b0
             try clear hcz13_0
             try clear hcz13_1
             try clear hcz34_0
             try clear hcz34_1
             try clear hcz36_0
             try clear hcz36_1
             try clear hcz37_0
             try clear hcz37_1
             try clear hcz44_0
             try clear hcz44_1
             try clear hcz48_0
             try clear hcz48_1
             try clear hcz9_0
             try clear hcz9_1
             try clear hfz13_0
             try clear hfz13_1
             try clear hfz34_0
             try clear hfz34_1
             try clear hfz36_0
             try clear hfz36_1
             try clear hfz37_0
             try clear hfz37_1
             try clear hfz44_0
             try clear hfz44_1
             try clear hfz48_0
             try clear hfz48_1
             try clear hfz9_0
             try clear hfz9_1
             try clear p2
             try clear p6
             obtain ⟨x10_4, x79_4, rfl, HA, HK4, HO_4, HO_5, HO_10, HO_339001, BK338, HB⟩ := hrel
             cases gk with
             | zero => exact absurd HA.out (by simp [laws_FnForced.l1])
             | succ k4 =>
              have H := HA.out
              clear HA
              simp only [laws_FnForced.l1] at H
              by_cases c49 : x79_4 < t331
              ·rw [if_pos c49] at H
               have c49b0 : decide (x79_4 < t331) = true := decide_eq_true c49
               clear c49
               by_cases c50 : 0 ≤ x79_4
               ·rw [if_pos c50] at H
                have c50b0 := eq_true c50
                have c50b1 : decide (0 ≤ x79_4) = true := decide_eq_true c50
                clear c50
                obtain ⟨ji51, hji51⟩ : ∃ j_ : Int, (shr .i64 x73_3 x79_4) = j_ := ⟨_, rfl⟩
                replace H : (if x10_4.length < 17592186044416 then (laws_FnForced.l1 k4 t335 t339 t342 x73_3 (x10_4 ++ [Int.tmod (ji51) 2]) ji43 x73_3 t331 (wrap64 (x79_4 + 1)) t331 t332) else (none)) = some r := by first | (rw [hji51] at H; exact H) | (simp only [hji51] at H ⊢; exact H)
                have hji51_ : (x73_3 / 2 ^ min x79_4.toNat 64) = ji51 := hji51
                have hji51z : x79_4 ≤ 64 → (x73_3 / 2 ^ x79_4.toNat) = ji51 := shr_small hji51
                by_cases c52 : x10_4.length < 17592186044416
                ·rw [if_pos c52] at H
                 have LMc52 := Aside0.mk c52
                 clear c52
                 obtain ⟨y355, hy355⟩ : ∃ y_ : List Int, y_ = (x10_4 ++ [Int.tmod (ji51) 2]) := ⟨_, rfl⟩
                 replace H : (laws_FnForced.l1 k4 t335 t339 t342 x73_3 y355 ji43 x73_3 t331 (wrap64 (x79_4 + 1)) t331 t332) = some r := by first | (rw [hy355]; with_reducible exact H) | (have H2_ := (Option.bind_some _ _).symm.trans H; rw [hy355]; with_reducible exact H2_) | (have H2_ := (Option.bind_some _ _).symm.trans H; with_reducible exact H2_) | with_reducible exact H | (rw [hy355]; exact H) | exact H
                 have Ny355 := Aside0.mk hy355
                 clear hy355
                 have H' := Aside0.mk H
                 clear H
                 go_wp2_with (first | ((with_reducible refine gate_builtin (b := .append) (xs := #[.tmp 82, .tmp 87]) rfl ?_); at_builtin; refine Kd.R_append (Kd.int .i64) (w0 := w) w.heap.size rfl (.tmp 82) (.tmp 87) 25 3 (.int .i64 0) 8 rfl Try.underlying25 info3 rfl (by decide) (by omega) u10 x10_4 (Int.tmod (ji51) 2) [.int .i64 (Int.tmod (ji51) 2)] (fun k_ => some k_ ≠ (.slice Ao11 t335.length co11 : Value).ownBlock ∧ some k_ ≠ (v340 : Value).ownBlock) (fun _ => False) rfl rfl ?aP (fun _ hk => hk.elim) ?aF ?aO ?aB ?aS ?aL ?_; (case aP => exact rfl); (case aB => exact (by repeat (first | (with_reducible first | exact HB.out | apply bwA | apply bwN | apply bwD | refine below_set ?_ GE338.out) | exact HB.out))); (case aF => exact (fun k_ hk => ⟨Kd.fresh' (Kd.R_lt (by (with_reducible repeat (first | apply Kd.R_alloc | apply Kd.R_drewN | apply Kd.R_drew)); exact HO_4.out)) k_ hk, Kd.fresh' (Kd.R_lt (by (with_reducible repeat (first | apply Kd.R_alloc | apply Kd.R_drewN | apply Kd.R_drew)); exact HO_5.out)) k_ hk⟩)); (case aO => exact (by (with_reducible repeat (first | apply Kd.R_alloc | apply Kd.R_drewN | apply Kd.R_drew)); exact HO_10.out)); (case aS => exact (below_size (by repeat (first | (with_reducible first | exact HB.out | apply bwA | apply bwN | apply bwD | refine below_set ?_ GE338.out) | exact HB.out)))); (case aL => have := LMc52.out; omega); intro v356 w53 ho hb hg hat; rw [← Ny355.out] at ho; have n0_ := Aside0.mk (Kd.R_after (ok := (fun k_ => some k_ ≠ (v340 : Value).ownBlock)) (by (with_reducible repeat (first | apply Kd.R_alloc | apply Kd.R_drewN | apply Kd.R_drew)); exact HO_4.out) hg hat); have n1_ := Aside0.mk (Kd.R_after (ok := (fun k_ => some k_ ≠ (.slice Ao11 t335.length co11 : Value).ownBlock)) (by (with_reducible repeat (first | apply Kd.R_alloc | apply Kd.R_drewN | apply Kd.R_drew)); exact HO_5.out) hg hat); have n2_ := Aside0.mk (Kd.S_after (ok := (fun k_ => some k_ ≠ (.slice Ao11 t335.length co11 : Value).ownBlock ∧ some k_ ≠ (v340 : Value).ownBlock)) (by (with_reducible repeat (first | apply Kd.S_alloc | apply Kd.S_drewN | apply Kd.S_drew)); exact Kd.S_mono HO_339001.out (fun _ hk => ⟨⟨hk.1, hk.2.1⟩, hk.2.2⟩)) hg hat); have n3_ := Aside0.mk (blk_grown (g := gb338) (o := .cells #[.int .i64 t331, .slice Ao10 t332.length co10] 29 (0, 0)) (by (with_reducible repeat (first | refine blk_drewN ?_ _ | refine blk_drew ?_ | refine blk_alloc ?_ _)); exact BK338.out) hg (Kd.R_ne HO_10.out BK338.out (by decide))); have n4_ := Aside0.mk (hb); have n5_ := Aside0.mk (ho); clear HO_4; clear HO_5; clear HO_339001; clear BK338; clear HB; clear HO_10; have HO_4 := n0_; have HO_5 := n1_; have HO_339001 := n2_; have BK338 := n3_; have HB := n4_; have HO357 := n5_; clear n0_ n1_ n2_ n3_ n4_ n5_; clear ho hb hg hat))
                 go_roundg k4
                 case measure => have := HJ5.out; have := HJ29.out; have := HK3.out; have := HK4.out; omega
                 case rel => exact ⟨(y355), (wrap64 (x79_4 + 1)), (by first | rfl | (simp; done) | (simp [*]; done)), H', ⟨by have := HJ5.out; have := HJ29.out; have := HK3.out; have := HK4.out; omega⟩, ⟨by (with_reducible repeat (first | apply Kd.R_alloc | apply Kd.R_drewN | apply Kd.R_drew)); exact HO_4.out⟩, ⟨by (with_reducible repeat (first | apply Kd.R_alloc | apply Kd.R_drewN | apply Kd.R_drew)); exact HO_5.out⟩, ⟨by (with_reducible repeat (first | apply Kd.R_alloc | apply Kd.R_drewN | apply Kd.R_drew)); exact HO357.out⟩, ⟨by (with_reducible repeat (first | apply Kd.S_alloc | apply Kd.S_drewN | apply Kd.S_drew)); exact Kd.S_mono HO_339001.out (fun _ hk => ⟨hk.1.1, ⟨hk.1.2, hk.2⟩⟩)⟩, ⟨by (with_reducible repeat (first | refine blk_drewN ?_ _ | refine blk_drew ?_ | refine blk_alloc ?_ _)); exact BK338.out⟩, ⟨by repeat (first | (with_reducible first | exact HB.out | apply bwA | apply bwN | apply bwD | refine below_set ?_ GE338.out) | exact HB.out)⟩⟩
                ·rw [if_neg c52] at H
                 exact absurd H (by simp)
               ·rw [if_neg c50] at H
                exact absurd H (by simp)
              ·rw [if_neg c49] at H
               have c49b0 : decide (x79_4 < t331) = false := decide_eq_false c49
               clear c49
               replace H := Option.bind_eq_some_iff.mp H
               obtain ⟨t358, A540, H⟩ := H
               replace H : (laws_FnForced.l2 k4 t335 t339 t342 x10_4 t358 ji43 x73_3 t335 (t335.length : Int) 0 t331 t332) = some r := H
               have A54 := Aside0.mk A540
               clear A540
               have H' := Aside0.mk H
               clear H
               have hcz55_0 : wr.cell? ⟨gb338, 0, none⟩ = some (.int .i64 t331) := (blk_cell BK338.out 0).trans rfl
               have hcz55_1 : wr.cell? ⟨gb338, 1, none⟩ = some (.slice Ao10 t332.length co10) := (blk_cell BK338.out 1).trans rfl
               have hfz55_0 := blk_frozen BK338.out 0
               have hfz55_1 := blk_frozen BK338.out 1
               obtain ⟨Ao56, co56, eo56⟩ := Kd.R_slice HO_10.out
               subst eo56
               go_wp2_with (first | ((with_reducible refine gate_callee (f := 27) rfl ?_); refine goesL_ (some 92) rfl rfl Try.func27 (by kernel_rfl) rfl #[.agg #[.int .i64 t331, .slice Ao10 t332.length co10], .slice Ao56 x10_4.length co56] rfl (by (try simp only [List.map_toArray, List.map_cons, List.map_nil]); first | done | rfl | (simp only [List.length_drop, List.length_take]; rfl)) ?_; (with_reducible refine (impl_TrueIn.calls k4 t331 _ _ t332 _ _ x10_4 t358 _ ?side1 ?side2 ?side3 ?side4 A54.out).mono ?_); (case side1 => repeat (first | exact (Kd.S_reads' HO_339001.out).2.2 | (with_reducible refine Kd.C_alloc ?_ _) | (with_reducible refine Kd.C_drewN ?_ _) | (with_reducible refine Kd.C_drew ?_))); (case side2 => exact (Kd.S_reads' HO_339001.out).2.1); (case side3 => repeat (first | exact (Kd.R_reads' HO_10.out).2.2 | (with_reducible refine Kd.C_alloc ?_ _) | (with_reducible refine Kd.C_drewN ?_ _) | (with_reducible refine Kd.C_drew ?_))); (case side4 => exact (Kd.R_reads' HO_10.out).2.1); rintro e w57 ⟨rfl, hb⟩; refine ⟨_, rfl, ?_⟩; have n0_ := Aside0.mk (Kd.R_below (by (with_reducible repeat (first | apply Kd.R_alloc | apply Kd.R_drewN | apply Kd.R_drew)); exact HO_4.out) hb); have n1_ := Aside0.mk (Kd.R_below (by (with_reducible repeat (first | apply Kd.R_alloc | apply Kd.R_drewN | apply Kd.R_drew)); exact HO_5.out) hb); have n2_ := Aside0.mk (Kd.R_below (by (with_reducible repeat (first | apply Kd.R_alloc | apply Kd.R_drewN | apply Kd.R_drew)); exact HO_10.out) hb); have n3_ := Aside0.mk (Kd.S_below (by (with_reducible repeat (first | apply Kd.S_alloc | apply Kd.S_drewN | apply Kd.S_drew)); exact HO_339001.out) hb); have n4_ := Aside0.mk (blk_below (g := gb338) (o := .cells #[.int .i64 t331, .slice Ao10 t332.length co10] 29 (0, 0)) (by (with_reducible repeat (first | refine blk_drewN ?_ _ | refine blk_drew ?_ | refine blk_alloc ?_ _)); exact BK338.out) hb); have n5_ := Aside0.mk (below_step (by repeat (first | (with_reducible first | exact HB.out | apply bwA | apply bwN | apply bwD | refine below_set ?_ GE338.out) | exact HB.out)) hb); clear HO_4; clear HO_5; clear HO_10; clear HO_339001; clear BK338; clear HB; have HO_4 := n0_; have HO_5 := n1_; have HO_10 := n2_; have HO_339001 := n3_; have BK338 := n4_; have HB := n5_; clear n0_ n1_ n2_ n3_ n4_ n5_; (try clear hb); (try clear hb2); (try clear hk); (try clear hi)))
               go_loopg [12, 95] k4 (fun kq v12 v95 w' => ∃ (x12_5 : Bool) (x95_5 : Int), v12 = .bool x12_5 ∧ v95 = .int .i64 x95_5 ∧ Aside0 (laws_FnForced.l2 kq t335 t339 t342 x10_4 x12_5 ji43 x73_3 t335 (t335.length : Int) x95_5 t331 t332 = some r) ∧ Aside0 (kq ≤ k4) ∧ Aside0 (Kd.R (Kd.int .i64) 3 w' w.heap.size (fun k_ => some k_ ≠ (v340 : Value).ownBlock ∧ some k_ ≠ ((.slice Ao56 x10_4.length co56) : Value).ownBlock) (.slice Ao11 t335.length co11) t335) ∧ Aside0 (Kd.R (Kd.int .i64) 3 w' w.heap.size (fun k_ => some k_ ≠ ((.slice Ao11 t335.length co11) : Value).ownBlock ∧ some k_ ≠ ((.slice Ao56 x10_4.length co56) : Value).ownBlock ∧ some k_ ≠ ((.slice Ao11 t335.length co11) : Value).ownBlock) v340 t339) ∧ Aside0 (Kd.R (Kd.int .i64) 3 w' w.heap.size (fun k_ => some k_ ≠ ((.slice Ao11 t335.length co11) : Value).ownBlock ∧ some k_ ≠ (v340 : Value).ownBlock ∧ some k_ ≠ ((.slice Ao11 t335.length co11) : Value).ownBlock) (.slice Ao56 x10_4.length co56) x10_4) ∧ Aside0 (Kd.R (Kd.int .i64) 3 w' w.heap.size (fun k_ => some k_ ≠ (v340 : Value).ownBlock ∧ some k_ ≠ ((.slice Ao56 x10_4.length co56) : Value).ownBlock) (.slice Ao11 t335.length co11) t335) ∧ Aside0 (Kd.S (Kd.slice 3 (Kd.int .i64)) 25 w' w.heap.size (fun k_ => some k_ ≠ ((.slice Ao11 t335.length co11) : Value).ownBlock ∧ some k_ ≠ (v340 : Value).ownBlock ∧ some k_ ≠ ((.slice Ao56 x10_4.length co56) : Value).ownBlock ∧ some k_ ≠ ((.slice Ao11 t335.length co11) : Value).ownBlock) (.slice Ao10 t332.length co10) t332) ∧ Aside0 (w'.heap[gb338]? = some (.cells #[.int .i64 t331, (.slice Ao10 t332.length co10)] 29 (0, 0))) ∧ Aside0 (Below w.heap.size w w'))
               case atStart => exact ⟨(t358), (0), (by first | rfl | (simp; done) | (simp [*]; done)), (by first | rfl | (simp; done) | (simp [*]; done)), H', ⟨Nat.le_refl _⟩, ⟨by (with_reducible repeat (first | apply Kd.R_alloc | apply Kd.R_drewN | apply Kd.R_drew)); exact HO_4.out⟩, ⟨by (with_reducible repeat (first | apply Kd.R_alloc | apply Kd.R_drewN | apply Kd.R_drew)); exact Kd.R_mono HO_5.out (fun _ hk => ⟨hk.1, ⟨hk.2, hk.1⟩⟩)⟩, ⟨by (with_reducible repeat (first | apply Kd.R_alloc | apply Kd.R_drewN | apply Kd.R_drew)); exact Kd.R_mono HO_10.out (fun _ hk => ⟨hk.1, ⟨hk.2, hk.1⟩⟩)⟩, ⟨by (with_reducible repeat (first | apply Kd.R_alloc | apply Kd.R_drewN | apply Kd.R_drew)); exact HO_4.out⟩, ⟨by (with_reducible repeat (first | apply Kd.S_alloc | apply Kd.S_drewN | apply Kd.S_drew)); exact Kd.S_mono HO_339001.out (fun _ hk => ⟨hk.1, ⟨hk.2.1, ⟨hk.2.2, hk.1⟩⟩⟩)⟩, ⟨by (with_reducible repeat (first | refine blk_drewN ?_ _ | refine blk_drew ?_ | refine blk_alloc ?_ _)); exact BK338.out⟩, ⟨by repeat (first | (with_reducible first | exact HB.out | apply bwA | apply bwN | apply bwD | refine below_set ?_ GE338.out) | exact HB.out)⟩⟩
               case round =>
                clear H'
                try clear c1
                try clear c2
                try clear c2b0
                try clear c2b1
                try clear p2
                try clear c3
                try clear c4
                try clear c5
                try clear p6
                try clear c13
                try clear c15
                try clear c15b0
                try clear c15b1
                try clear c15b2
                try clear c16
                try clear c18
                try clear c22
                try clear c23
                try clear c24
                try clear c25
                try clear c27
                try clear c29
                try clear c32
                try clear c39
                try clear c40
                try clear c42
                try clear c42b0
                try clear c42b1
                try clear c45
                try clear c45b0
                try clear c49
                try clear c49b0
                try clear c50
                try clear c50b0
                try clear c50b1
                try clear c52
                try clear hcz13_0
                try clear hcz13_1
                try clear hcz34_0
                try clear hcz34_1
                try clear hcz36_0
                try clear hcz36_1
                try clear hcz37_0
                try clear hcz37_1
                try clear hcz44_0
                try clear hcz44_1
                try clear hcz48_0
                try clear hcz48_1
                try clear hcz55_0
                try clear hcz55_1
                try clear hcz9_0
                try clear hcz9_1
                try clear hfz13_0
                try clear hfz13_1
                try clear hfz34_0
                try clear hfz34_1
                try clear hfz36_0
                try clear hfz36_1
                try clear hfz37_0
                try clear hfz37_1
                try clear hfz44_0
                try clear hfz44_1
                try clear hfz48_0
                try clear hfz48_1
                try clear hfz55_0
                try clear hfz55_1
                try clear hfz9_0
                try clear hfz9_1
                try clear p2
                try clear p6
                obtain ⟨x12_5, x95_5, rfl, rfl, HA, HK5, HO_4, HO_5, HO_10, HO_93, HO_339001, BK338, HB⟩ := hrel
                cases gk with
                | zero => exact absurd HA.out (by simp [laws_FnForced.l2])
                | succ k5 =>
                 have H := HA.out
                 clear HA
                 simp only [laws_FnForced.l2] at H
                 by_cases c58 : x95_5 < (t335.length : Int)
                 ·rw [if_pos c58] at H
                  have c58b0 : decide (x95_5 < (t335.length : Int)) = true := decide_eq_true c58
                  clear c58
                  by_cases c59 : 0 ≤ x95_5
                  ·rw [if_pos c59] at H
                   have c59b0 : decide (0 ≤ x95_5) = true := decide_eq_true c59
                   clear c59
                   by_cases c60 : x95_5 < (t335.length : Int)
                   ·rw [if_pos c60] at H
                    have c60b0 : decide (x95_5 < (t335.length : Int)) = true := decide_eq_true c60
                    clear c60
                    by_cases c61 : x12_5 = true
                    ·subst c61
                     have H1 : (if 0 ≤ (wrap64 ((mx (rd t335 x95_5) (wrap64 (-(rd t335 x95_5)))) - 1)) then (if (wrap64 ((mx (rd t335 x95_5) (wrap64 (-(rd t335 x95_5)))) - 1)) < (x10_4.length : Int) then (laws_FnForced.l2 k5 t335 t339 t342 x10_4 ((decide ((rd t335 x95_5) > 0)) == ((rd x10_4 (wrap64 ((mx (rd t335 x95_5) (wrap64 (-(rd t335 x95_5)))) - 1))) == 1)) ji43 x73_3 t335 (t335.length : Int) (wrap64 (x95_5 + 1)) t331 t332) else (none)) else (none)) = some r := by rw [if_pos rfl] at H; exact H
                     clear H
                     have H := H1
                     clear H1
                     obtain ⟨ji62, hji62⟩ : ∃ j_ : Int, (mx (rd t335 x95_5) (wrap64 (-(rd t335 x95_5)))) = j_ := ⟨_, rfl⟩
                     replace H : (if 0 ≤ (wrap64 ((ji62) - 1)) then (if (wrap64 ((ji62) - 1)) < (x10_4.length : Int) then (laws_FnForced.l2 k5 t335 t339 t342 x10_4 ((decide ((rd t335 x95_5) > 0)) == ((rd x10_4 (wrap64 ((ji62) - 1))) == 1)) ji43 x73_3 t335 (t335.length : Int) (wrap64 (x95_5 + 1)) t331 t332) else (none)) else (none)) = some r := by first | (rw [hji62] at H; exact H) | (simp only [hji62] at H ⊢; exact H)
                     have hji62_ : (if (rd t335 x95_5) < (wrap64 (-(rd t335 x95_5))) then (wrap64 (-(rd t335 x95_5))) else (rd t335 x95_5)) = ji62 := hji62
                     obtain ⟨ji63, hji63⟩ : ∃ j_ : Int, (wrap64 ((ji62) - 1)) = j_ := ⟨_, rfl⟩
                     replace H : (if 0 ≤ (ji63) then (if (ji63) < (x10_4.length : Int) then (laws_FnForced.l2 k5 t335 t339 t342 x10_4 ((decide ((rd t335 x95_5) > 0)) == ((rd x10_4 (ji63)) == 1)) ji43 x73_3 t335 (t335.length : Int) (wrap64 (x95_5 + 1)) t331 t332) else (none)) else (none)) = some r := by first | (rw [hji63] at H; exact H) | (simp only [hji63] at H ⊢; exact H)
                     have hji63w : (IntKind.i64.wrap ((ji62) - 1)) = ji63 := (i64_w _).trans hji63
                     by_cases c64 : 0 ≤ (ji63)
                     ·rw [if_pos c64] at H
                      have c64b0 : decide (0 ≤ (ji63)) = true := decide_eq_true c64
                      clear c64
                      by_cases c65 : (ji63) < (x10_4.length : Int)
                      ·rw [if_pos c65] at H
                       have c65b0 : decide ((ji63) < (x10_4.length : Int)) = true := decide_eq_true c65
                       clear c65
                       have H' := Aside0.mk H
                       clear H
                       have p359 : 0 ≤ (x95_5 : Int) := of_decide_eq_true (by first | (with_reducible assumption) | assumption)
                       have q359 : x95_5 < (t335.length : Int) := of_decide_eq_true (by first | (with_reducible assumption) | assumption)
                       obtain ⟨ad359, e359, hx359_0⟩ := Kd.at_int (Kd.R_reads' HO_93.out).2.2 x95_5 p359 q359
                       cases e359
                       replace p359 := eq_true p359
                       replace q359 := eq_true q359
                       have p360 : 0 ≤ ((ji63) : Int) := of_decide_eq_true (by first | (with_reducible assumption) | assumption)
                       have q360 : (ji63) < (x10_4.length : Int) := of_decide_eq_true (by first | (with_reducible assumption) | assumption)
                       obtain ⟨ad360, e360, hx360_0⟩ := Kd.at_int (Kd.R_reads' HO_10.out).2.2 (ji63) p360 q360
                       cases e360
                       replace p360 := eq_true p360
                       replace q360 := eq_true q360
                       go_wp2
                       go_roundg k5
                       case measure => have := HJ5.out; have := HJ29.out; have := HK3.out; have := HK4.out; have := HK5.out; omega
                       case rel => exact ⟨(((decide ((rd t335 x95_5) > 0)) == ((rd x10_4 (ji63)) == 1))), (wrap64 (x95_5 + 1)), (by first | rfl | (simp; done) | (simp only [← hji63] <;> (first | rfl | simp)) | (simp [*]; done)), (by first | rfl | (simp; done) | (simp [*]; done)), H', ⟨by have := HJ5.out; have := HJ29.out; have := HK3.out; have := HK4.out; have := HK5.out; omega⟩, ⟨by (with_reducible repeat (first | apply Kd.R_alloc | apply Kd.R_drewN | apply Kd.R_drew)); exact HO_4.out⟩, ⟨by (with_reducible repeat (first | apply Kd.R_alloc | apply Kd.R_drewN | apply Kd.R_drew)); exact HO_5.out⟩, ⟨by (with_reducible repeat (first | apply Kd.R_alloc | apply Kd.R_drewN | apply Kd.R_drew)); exact HO_10.out⟩, ⟨by (with_reducible repeat (first | apply Kd.R_alloc | apply Kd.R_drewN | apply Kd.R_drew)); exact HO_93.out⟩, ⟨by (with_reducible repeat (first | apply Kd.S_alloc | apply Kd.S_drewN | apply Kd.S_drew)); exact HO_339001.out⟩, ⟨by (with_reducible repeat (first | refine blk_drewN ?_ _ | refine blk_drew ?_ | refine blk_alloc ?_ _)); exact BK338.out⟩, ⟨by repeat (first | (with_reducible first | exact HB.out | apply bwA | apply bwN | apply bwD | refine below_set ?_ GE338.out) | exact HB.out)⟩⟩
                      ·rw [if_neg c65] at H
                       exact absurd H (by simp)
                     ·rw [if_neg c64] at H
                      exact absurd H (by simp)
                    ·replace c61 := Bool.eq_false_iff.mpr c61
                     subst c61
                     have H1 : (laws_FnForced.l2 k5 t335 t339 t342 x10_4 false ji43 x73_3 t335 (t335.length : Int) (wrap64 (x95_5 + 1)) t331 t332) = some r := by rw [if_neg (show ¬ (false = true) by decide)] at H; exact H
                     clear H
                     have H := H1
                     clear H1
                     have H' := Aside0.mk H
                     clear H
                     have p359 : 0 ≤ (x95_5 : Int) := of_decide_eq_true (by first | (with_reducible assumption) | assumption)
                     have q359 : x95_5 < (t335.length : Int) := of_decide_eq_true (by first | (with_reducible assumption) | assumption)
                     obtain ⟨ad359, e359, hx359_0⟩ := Kd.at_int (Kd.R_reads' HO_93.out).2.2 x95_5 p359 q359
                     cases e359
                     replace p359 := eq_true p359
                     replace q359 := eq_true q359
                     go_wp2
                     go_roundg k5
                     case measure => have := HJ5.out; have := HJ29.out; have := HK3.out; have := HK4.out; have := HK5.out; omega
                     case rel => exact ⟨(false), (wrap64 (x95_5 + 1)), (by first | rfl | (simp; done) | (simp [*]; done)), (by first | rfl | (simp; done) | (simp [*]; done)), H', ⟨by have := HJ5.out; have := HJ29.out; have := HK3.out; have := HK4.out; have := HK5.out; omega⟩, ⟨by (with_reducible repeat (first | apply Kd.R_alloc | apply Kd.R_drewN | apply Kd.R_drew)); exact HO_4.out⟩, ⟨by (with_reducible repeat (first | apply Kd.R_alloc | apply Kd.R_drewN | apply Kd.R_drew)); exact HO_5.out⟩, ⟨by (with_reducible repeat (first | apply Kd.R_alloc | apply Kd.R_drewN | apply Kd.R_drew)); exact HO_10.out⟩, ⟨by (with_reducible repeat (first | apply Kd.R_alloc | apply Kd.R_drewN | apply Kd.R_drew)); exact HO_93.out⟩, ⟨by (with_reducible repeat (first | apply Kd.S_alloc | apply Kd.S_drewN | apply Kd.S_drew)); exact HO_339001.out⟩, ⟨by (with_reducible repeat (first | refine blk_drewN ?_ _ | refine blk_drew ?_ | refine blk_alloc ?_ _)); exact BK338.out⟩, ⟨by repeat (first | (with_reducible first | exact HB.out | apply bwA | apply bwN | apply bwD | refine below_set ?_ GE338.out) | exact HB.out)⟩⟩
                   ·rw [if_neg c60] at H
                    exact absurd H (by simp)
                  ·rw [if_neg c59] at H
                   exact absurd H (by simp)
                 ·rw [if_neg c58] at H
                  have c58b0 : decide (x95_5 < (t335.length : Int)) = false := decide_eq_false c58
                  clear c58
                  have HC66 := Aside0.mk H
                  clear H
                  go_upto_region 25 with (fail)
                  go_cut [119] (fun v119 wc => ∃ (kq : Nat) (x119_65 : Bool), v119 = .bool x119_65 ∧ Aside0 (laws_FnForced.j5 kq t335 t339 t342 x10_4 x12_5 ji43 x73_3 x119_65 t331 t332 = some r) ∧ Aside0 (kq ≤ k5) ∧ Aside0 (Kd.R (Kd.int .i64) 3 wc w.heap.size (fun k_ => some k_ ≠ (v340 : Value).ownBlock ∧ some k_ ≠ ((.slice Ao56 x10_4.length co56) : Value).ownBlock) (.slice Ao11 t335.length co11) t335) ∧ Aside0 (Kd.R (Kd.int .i64) 3 wc w.heap.size (fun k_ => some k_ ≠ ((.slice Ao11 t335.length co11) : Value).ownBlock ∧ some k_ ≠ ((.slice Ao56 x10_4.length co56) : Value).ownBlock) v340 t339) ∧ Aside0 (Kd.R (Kd.int .i64) 3 wc w.heap.size (fun k_ => some k_ ≠ ((.slice Ao11 t335.length co11) : Value).ownBlock ∧ some k_ ≠ (v340 : Value).ownBlock) (.slice Ao56 x10_4.length co56) x10_4) ∧ Aside0 (Kd.S (Kd.slice 3 (Kd.int .i64)) 25 wc w.heap.size (fun k_ => some k_ ≠ ((.slice Ao11 t335.length co11) : Value).ownBlock ∧ some k_ ≠ (v340 : Value).ownBlock ∧ some k_ ≠ ((.slice Ao56 x10_4.length co56) : Value).ownBlock) (.slice Ao10 t332.length co10) t332) ∧ Aside0 (wc.heap[gb338]? = some (.cells #[.int .i64 t331, (.slice Ao10 t332.length co10)] 29 (0, 0))) ∧ Aside0 (Below w.heap.size w wc))
                  case first =>
                   have H := HC66.out
                   clear HC66
                   by_cases c67 : x12_5 = true
                   ·subst c67
                    have H1 : (laws_FnForced.j5 k5 t335 t339 t342 x10_4 true ji43 x73_3 (!t342) t331 t332) = some r := by rw [if_pos rfl] at H; exact H
                    clear H
                    have H := H1
                    clear H1
                    have H' := Aside0.mk H
                    clear H
                    go_wp2
                    go_meet
                    case rel => exact ⟨_, (!t342), (by first | rfl | (simp; done) | (simp [*]; done)), H', ⟨by have := HJ5.out; have := HJ29.out; have := HK3.out; have := HK4.out; have := HK5.out; first | omega | exact Nat.le_refl _⟩, ⟨by (with_reducible repeat (first | apply Kd.R_alloc | apply Kd.R_drewN | apply Kd.R_drew)); exact HO_4.out⟩, ⟨by (with_reducible repeat (first | apply Kd.R_alloc | apply Kd.R_drewN | apply Kd.R_drew)); exact Kd.R_mono HO_5.out (fun _ hk => ⟨hk.1, hk.2.1⟩)⟩, ⟨by (with_reducible repeat (first | apply Kd.R_alloc | apply Kd.R_drewN | apply Kd.R_drew)); exact Kd.R_mono HO_10.out (fun _ hk => ⟨hk.1, hk.2.1⟩)⟩, ⟨by (with_reducible repeat (first | apply Kd.S_alloc | apply Kd.S_drewN | apply Kd.S_drew)); exact Kd.S_mono HO_339001.out (fun _ hk => ⟨hk.1, ⟨hk.2.1, hk.2.2.1⟩⟩)⟩, ⟨by (with_reducible repeat (first | refine blk_drewN ?_ _ | refine blk_drew ?_ | refine blk_alloc ?_ _)); exact BK338.out⟩, ⟨by repeat (first | (with_reducible first | exact HB.out | apply bwA | apply bwN | apply bwD | refine below_set ?_ GE338.out) | exact HB.out)⟩⟩
                   ·replace c67 := Bool.eq_false_iff.mpr c67
                    subst c67
                    have H1 : (laws_FnForced.j5 k5 t335 t339 t342 x10_4 false ji43 x73_3 false t331 t332) = some r := by rw [if_neg (show ¬ (false = true) by decide)] at H; exact H
                    clear H
                    have H := H1
                    clear H1
                    have H' := Aside0.mk H
                    clear H
                    go_wp2
                    go_meet
                    case rel => exact ⟨_, (false), (by first | rfl | (simp; done) | (simp [*]; done)), H', ⟨by have := HJ5.out; have := HJ29.out; have := HK3.out; have := HK4.out; have := HK5.out; first | omega | exact Nat.le_refl _⟩, ⟨by (with_reducible repeat (first | apply Kd.R_alloc | apply Kd.R_drewN | apply Kd.R_drew)); exact HO_4.out⟩, ⟨by (with_reducible repeat (first | apply Kd.R_alloc | apply Kd.R_drewN | apply Kd.R_drew)); exact Kd.R_mono HO_5.out (fun _ hk => ⟨hk.1, hk.2.1⟩)⟩, ⟨by (with_reducible repeat (first | apply Kd.R_alloc | apply Kd.R_drewN | apply Kd.R_drew)); exact Kd.R_mono HO_10.out (fun _ hk => ⟨hk.1, hk.2.1⟩)⟩, ⟨by (with_reducible repeat (first | apply Kd.S_alloc | apply Kd.S_drewN | apply Kd.S_drew)); exact Kd.S_mono HO_339001.out (fun _ hk => ⟨hk.1, ⟨hk.2.1, hk.2.2.1⟩⟩)⟩, ⟨by (with_reducible repeat (first | refine blk_drewN ?_ _ | refine blk_drew ?_ | refine blk_alloc ?_ _)); exact BK338.out⟩, ⟨by repeat (first | (with_reducible first | exact HB.out | apply bwA | apply bwN | apply bwD | refine below_set ?_ GE338.out) | exact HB.out)⟩⟩
                  case rest =>
                   clear HC66
                   try clear c1
                   try clear c2
                   try clear c2b0
                   try clear c2b1
                   try clear p2
                   try clear c3
                   try clear p3
                   try clear q3
                   try clear hx3
                   try clear c4
                   try clear c5
                   try clear c6
                   try clear p6
                   try clear c13
                   try clear c15
                   try clear c15b0
                   try clear c15b1
                   try clear c15b2
                   try clear c16
                   try clear c18
                   try clear c22
                   try clear c23
                   try clear c24
                   try clear c25
                   try clear c27
                   try clear c29
                   try clear c32
                   try clear p35
                   try clear q35
                   try clear hx35
                   try clear p36
                   try clear q36
                   try clear hx36
                   try clear c39
                   try clear c40
                   try clear c42
                   try clear c42b0
                   try clear c42b1
                   try clear c45
                   try clear c45b0
                   try clear c49
                   try clear c49b0
                   try clear c50
                   try clear c50b0
                   try clear c50b1
                   try clear c52
                   try clear c58
                   try clear c58b0
                   try clear c59
                   try clear c59b0
                   try clear c60
                   try clear c60b0
                   try clear c61
                   try clear c64
                   try clear c64b0
                   try clear p64
                   try clear c65
                   try clear c65b0
                   try clear c67
                   try clear hcz13_0
                   try clear hcz13_1
                   try clear hcz34_0
                   try clear hcz34_1
                   try clear hcz36_0
                   try clear hcz36_1
                   try clear hcz37_0
                   try clear hcz37_1
                   try clear hcz44_0
                   try clear hcz44_1
                   try clear hcz48_0
                   try clear hcz48_1
                   try clear hcz55_0
                   try clear hcz55_1
                   try clear hcz9_0
                   try clear hcz9_1
                   try clear hfz13_0
                   try clear hfz13_1
                   try clear hfz34_0
                   try clear hfz34_1
                   try clear hfz36_0
                   try clear hfz36_1
                   try clear hfz37_0
                   try clear hfz37_1
                   try clear hfz44_0
                   try clear hfz44_1
                   try clear hfz48_0
                   try clear hfz48_1
                   try clear hfz55_0
                   try clear hfz55_1
                   try clear hfz9_0
                   try clear hfz9_1
                   try clear hx359_0
                   try clear hx360_0
                   try clear p2
                   try clear p359
                   try clear p360
                   try clear p6
                   try clear q359
                   try clear q360
                   obtain ⟨kq, x119_65, rfl, HA, HJ65, HO_4, HO_5, HO_10, HO_339001, BK338, HB⟩ := hcut
                   cases kq with
                   | zero => exact absurd HA.out (by simp [laws_FnForced.j5])
                   | succ kj65 =>
                    have H := HA.out
                    clear HA
                    simp only [laws_FnForced.j5] at H
                    by_cases c68 : x119_65 = true
                    ·subst c68
                     have H1 : (some false) = some r := by rw [if_pos rfl] at H; exact H
                     clear H
                     have H := H1
                     clear H1
                     obtain rfl := Option.some.inj H
                     go_wp2
                     go_ret
                     exact ⟨by first | rfl | (simp [errW_none, errW_some] <;> rfl) | (simp only [← hji43]; first | rfl | (simp [errW_none, errW_some] <;> rfl)) | (simp [*, errW_none, errW_some] <;> rfl), by repeat (first | (with_reducible first | exact HB.out | apply bwA | apply bwN | apply bwD | refine below_set ?_ GE338.out) | exact HB.out)⟩
                    ·replace c68 := Bool.eq_false_iff.mpr c68
                     subst c68
                     have H1 : (laws_FnForced.l3 kj65 t335 t339 t342 x10_4 x12_5 ji43 x73_3 t339 (t339.length : Int) 0 t331 t332) = some r := by rw [if_neg (show ¬ (false = true) by decide)] at H; exact H
                     clear H
                     have H := H1
                     clear H1
                     have H' := Aside0.mk H
                     clear H
                     obtain ⟨Ao69, co69, eo69⟩ := Kd.R_slice HO_5.out
                     subst eo69
                     go_wp2
                     go_loopg [122] kj65 (fun kq v122 w' => ∃ (x122_7 : Int), v122 = .int .i64 x122_7 ∧ Aside0 (laws_FnForced.l3 kq t335 t339 t342 x10_4 x12_5 ji43 x73_3 t339 (t339.length : Int) x122_7 t331 t332 = some r) ∧ Aside0 (kq ≤ kj65) ∧ Aside0 (Kd.R (Kd.int .i64) 3 w' w.heap.size (fun k_ => some k_ ≠ ((.slice Ao69 t339.length co69) : Value).ownBlock ∧ some k_ ≠ ((.slice Ao56 x10_4.length co56) : Value).ownBlock ∧ some k_ ≠ ((.slice Ao69 t339.length co69) : Value).ownBlock) (.slice Ao11 t335.length co11) t335) ∧ Aside0 (Kd.R (Kd.int .i64) 3 w' w.heap.size (fun k_ => some k_ ≠ ((.slice Ao11 t335.length co11) : Value).ownBlock ∧ some k_ ≠ ((.slice Ao56 x10_4.length co56) : Value).ownBlock) (.slice Ao69 t339.length co69) t339) ∧ Aside0 (Kd.R (Kd.int .i64) 3 w' w.heap.size (fun k_ => some k_ ≠ ((.slice Ao11 t335.length co11) : Value).ownBlock ∧ some k_ ≠ ((.slice Ao69 t339.length co69) : Value).ownBlock ∧ some k_ ≠ ((.slice Ao69 t339.length co69) : Value).ownBlock) (.slice Ao56 x10_4.length co56) x10_4) ∧ Aside0 (Kd.R (Kd.int .i64) 3 w' w.heap.size (fun k_ => some k_ ≠ ((.slice Ao11 t335.length co11) : Value).ownBlock ∧ some k_ ≠ ((.slice Ao56 x10_4.length co56) : Value).ownBlock) (.slice Ao69 t339.length co69) t339) ∧ Aside0 (Kd.S (Kd.slice 3 (Kd.int .i64)) 25 w' w.heap.size (fun k_ => some k_ ≠ ((.slice Ao11 t335.length co11) : Value).ownBlock ∧ some k_ ≠ ((.slice Ao69 t339.length co69) : Value).ownBlock ∧ some k_ ≠ ((.slice Ao56 x10_4.length co56) : Value).ownBlock ∧ some k_ ≠ ((.slice Ao69 t339.length co69) : Value).ownBlock) (.slice Ao10 t332.length co10) t332) ∧ Aside0 (w'.heap[gb338]? = some (.cells #[.int .i64 t331, (.slice Ao10 t332.length co10)] 29 (0, 0))) ∧ Aside0 (Below w.heap.size w w'))
                     case atStart => exact ⟨(0), (by first | rfl | (simp; done) | (simp [*]; done)), H', ⟨Nat.le_refl _⟩, ⟨by (with_reducible repeat (first | apply Kd.R_alloc | apply Kd.R_drewN | apply Kd.R_drew)); exact Kd.R_mono HO_4.out (fun _ hk => ⟨hk.1, ⟨hk.2, hk.1⟩⟩)⟩, ⟨by (with_reducible repeat (first | apply Kd.R_alloc | apply Kd.R_drewN | apply Kd.R_drew)); exact HO_5.out⟩, ⟨by (with_reducible repeat (first | apply Kd.R_alloc | apply Kd.R_drewN | apply Kd.R_drew)); exact Kd.R_mono HO_10.out (fun _ hk => ⟨hk.1, ⟨hk.2, hk.2⟩⟩)⟩, ⟨by (with_reducible repeat (first | apply Kd.R_alloc | apply Kd.R_drewN | apply Kd.R_drew)); exact HO_5.out⟩, ⟨by (with_reducible repeat (first | apply Kd.S_alloc | apply Kd.S_drewN | apply Kd.S_drew)); exact Kd.S_mono HO_339001.out (fun _ hk => ⟨hk.1, ⟨hk.2.1, ⟨hk.2.2, hk.2.1⟩⟩⟩)⟩, ⟨by (with_reducible repeat (first | refine blk_drewN ?_ _ | refine blk_drew ?_ | refine blk_alloc ?_ _)); exact BK338.out⟩, ⟨by repeat (first | (with_reducible first | exact HB.out | apply bwA | apply bwN | apply bwD | refine below_set ?_ GE338.out) | exact HB.out)⟩⟩
                     case round =>
                      clear H'
                      try clear c1
                      try clear c2
                      try clear c2b0
                      try clear c2b1
                      try clear p2
                      try clear c3
                      try clear p3
                      try clear q3
                      try clear hx3
                      try clear c4
                      try clear c5
                      try clear c6
                      try clear p6
                      try clear c13
                      try clear c15
                      try clear c15b0
                      try clear c15b1
                      try clear c15b2
                      try clear c16
                      try clear c18
                      try clear c22
                      try clear c23
                      try clear c24
                      try clear c25
                      try clear c27
                      try clear c29
                      try clear c32
                      try clear p35
                      try clear q35
                      try clear hx35
                      try clear p36
                      try clear q36
                      try clear hx36
                      try clear c39
                      try clear c40
                      try clear c42
                      try clear c42b0
                      try clear c42b1
                      try clear c45
                      try clear c45b0
                      try clear c49
                      try clear c49b0
                      try clear c50
                      try clear c50b0
                      try clear c50b1
                      try clear c52
                      try clear c58
                      try clear c58b0
                      try clear c59
                      try clear c59b0
                      try clear c60
                      try clear c60b0
                      try clear c61
                      try clear c64
                      try clear c64b0
                      try clear p64
                      try clear c65
                      try clear c65b0
                      try clear c67
                      try clear c68
                      try clear hcz13_0
                      try clear hcz13_1
                      try clear hcz34_0
                      try clear hcz34_1
                      try clear hcz36_0
                      try clear hcz36_1
                      try clear hcz37_0
                      try clear hcz37_1
                      try clear hcz44_0
                      try clear hcz44_1
                      try clear hcz48_0
                      try clear hcz48_1
                      try clear hcz55_0
                      try clear hcz55_1
                      try clear hcz9_0
                      try clear hcz9_1
                      try clear hfz13_0
                      try clear hfz13_1
                      try clear hfz34_0
                      try clear hfz34_1
                      try clear hfz36_0
                      try clear hfz36_1
                      try clear hfz37_0
                      try clear hfz37_1
                      try clear hfz44_0
                      try clear hfz44_1
                      try clear hfz48_0
                      try clear hfz48_1
                      try clear hfz55_0
                      try clear hfz55_1
                      try clear hfz9_0
                      try clear hfz9_1
                      try clear hx359_0
                      try clear hx360_0
                      try clear p2
                      try clear p3
                      try clear p35
                      try clear p359
                      try clear p36
                      try clear p360
                      try clear p6
                      try clear p64
                      try clear q3
                      try clear q35
                      try clear q359
                      try clear q36
                      try clear q360
                      obtain ⟨x122_7, rfl, HA, HK7, HO_4, HO_5, HO_10, HO_120, HO_339001, BK338, HB⟩ := hrel
                      cases gk with
                      | zero => exact absurd HA.out (by simp [laws_FnForced.l3])
                      | succ k7 =>
                       have H := HA.out
                       clear HA
                       simp only [laws_FnForced.l3] at H
                       by_cases c70 : x122_7 < (t339.length : Int)
                       ·rw [if_pos c70] at H
                        have c70b0 : decide (x122_7 < (t339.length : Int)) = true := decide_eq_true c70
                        clear c70
                        by_cases c71 : 0 ≤ x122_7
                        ·rw [if_pos c71] at H
                         have c71b0 : decide (0 ≤ x122_7) = true := decide_eq_true c71
                         clear c71
                         by_cases c72 : x122_7 < (t339.length : Int)
                         ·rw [if_pos c72] at H
                          have c72b0 : decide (x122_7 < (t339.length : Int)) = true := decide_eq_true c72
                          clear c72
                          by_cases c73 : x12_5 = true
                          ·subst c73
                           have H1 : (if 0 ≤ (wrap64 ((mx (rd t339 x122_7) (wrap64 (-(rd t339 x122_7)))) - 1)) then (if (wrap64 ((mx (rd t339 x122_7) (wrap64 (-(rd t339 x122_7)))) - 1)) < (x10_4.length : Int) then (if ((decide ((rd t339 x122_7) > 0)) != ((rd x10_4 (wrap64 ((mx (rd t339 x122_7) (wrap64 (-(rd t339 x122_7)))) - 1))) == 1)) = true then (some false) else (laws_FnForced.l3 k7 t335 t339 t342 x10_4 true ji43 x73_3 t339 (t339.length : Int) (wrap64 (x122_7 + 1)) t331 t332)) else (none)) else (none)) = some r := by rw [if_pos rfl] at H; exact H
                           clear H
                           have H := H1
                           clear H1
                           obtain ⟨ji74, hji74⟩ : ∃ j_ : Int, (mx (rd t339 x122_7) (wrap64 (-(rd t339 x122_7)))) = j_ := ⟨_, rfl⟩
                           replace H : (if 0 ≤ (wrap64 ((ji74) - 1)) then (if (wrap64 ((ji74) - 1)) < (x10_4.length : Int) then (if ((decide ((rd t339 x122_7) > 0)) != ((rd x10_4 (wrap64 ((ji74) - 1))) == 1)) = true then (some false) else (laws_FnForced.l3 k7 t335 t339 t342 x10_4 true ji43 x73_3 t339 (t339.length : Int) (wrap64 (x122_7 + 1)) t331 t332)) else (none)) else (none)) = some r := by first | (rw [hji74] at H; exact H) | (simp only [hji74] at H ⊢; exact H)
                           have hji74_ : (if (rd t339 x122_7) < (wrap64 (-(rd t339 x122_7))) then (wrap64 (-(rd t339 x122_7))) else (rd t339 x122_7)) = ji74 := hji74
                           obtain ⟨ji75, hji75⟩ : ∃ j_ : Int, (wrap64 ((ji74) - 1)) = j_ := ⟨_, rfl⟩
                           replace H : (if 0 ≤ (ji75) then (if (ji75) < (x10_4.length : Int) then (if ((decide ((rd t339 x122_7) > 0)) != ((rd x10_4 (ji75)) == 1)) = true then (some false) else (laws_FnForced.l3 k7 t335 t339 t342 x10_4 true ji43 x73_3 t339 (t339.length : Int) (wrap64 (x122_7 + 1)) t331 t332)) else (none)) else (none)) = some r := by first | (rw [hji75] at H; exact H) | (simp only [hji75] at H ⊢; exact H)
                           have hji75w : (IntKind.i64.wrap ((ji74) - 1)) = ji75 := (i64_w _).trans hji75
                           by_cases c76 : 0 ≤ (ji75)
                           ·rw [if_pos c76] at H
                            have c76b0 : decide (0 ≤ (ji75)) = true := decide_eq_true c76
                            clear c76
                            by_cases c77 : (ji75) < (x10_4.length : Int)
                            ·rw [if_pos c77] at H
                             have c77b0 : decide ((ji75) < (x10_4.length : Int)) = true := decide_eq_true c77
                             clear c77
                             by_cases c78 : ((decide ((rd t339 x122_7) > 0)) != ((rd x10_4 (ji75)) == 1)) = true
                             ·rw [if_pos c78] at H
                              have c78b0 : ((decide ((rd t339 x122_7) > 0)) != ((rd x10_4 (ji75)) == 1)) = true := c78
                              (try (have c78b1 : decide ((decide ((rd t339 x122_7) > 0)) = ((rd x10_4 (ji75)) == 1)) = false := by simpa using c78))
                              (try (have c78b2 : ((decide ((rd t339 x122_7) > 0)) == ((rd x10_4 (ji75)) == 1)) = false := by simpa using c78))
                              (try (have c78b3 : ¬ ((decide ((rd t339 x122_7) > 0)) = ((rd x10_4 (ji75)) == 1)) := by simpa using c78))
                              clear c78
                              obtain rfl := Option.some.inj H
                              have p361 : 0 ≤ (x122_7 : Int) := of_decide_eq_true (by first | (with_reducible assumption) | assumption)
                              have q361 : x122_7 < (t339.length : Int) := of_decide_eq_true (by first | (with_reducible assumption) | assumption)
                              obtain ⟨ad361, e361, hx361_0⟩ := Kd.at_int (Kd.R_reads' HO_120.out).2.2 x122_7 p361 q361
                              cases e361
                              replace p361 := eq_true p361
                              replace q361 := eq_true q361
                              have p362 : 0 ≤ ((ji75) : Int) := of_decide_eq_true (by first | (with_reducible assumption) | assumption)
                              have q362 : (ji75) < (x10_4.length : Int) := of_decide_eq_true (by first | (with_reducible assumption) | assumption)
                              obtain ⟨ad362, e362, hx362_0⟩ := Kd.at_int (Kd.R_reads' HO_10.out).2.2 (ji75) p362 q362
                              cases e362
                              replace p362 := eq_true p362
                              replace q362 := eq_true q362
                              go_wp2
                              go_ret
                              exact ⟨by first | rfl | (simp [errW_none, errW_some] <;> rfl) | (simp only [← hji43, ← hji74, ← hji75]; first | rfl | (simp [errW_none, errW_some] <;> rfl)) | (simp [*, errW_none, errW_some] <;> rfl), by repeat (first | (with_reducible first | exact HB.out | apply bwA | apply bwN | apply bwD | refine below_set ?_ GE338.out) | exact HB.out)⟩
                             ·rw [if_neg c78] at H
                              have c78b0 : ((decide ((rd t339 x122_7) > 0)) != ((rd x10_4 (ji75)) == 1)) = false := by simpa using c78
                              (try (have c78b1 : decide ((decide ((rd t339 x122_7) > 0)) = ((rd x10_4 (ji75)) == 1)) = true := by simpa using c78))
                              (try (have c78b2 : ((decide ((rd t339 x122_7) > 0)) == ((rd x10_4 (ji75)) == 1)) = true := by simpa using c78))
                              clear c78
                              have H' := Aside0.mk H
                              clear H
                              have p361 : 0 ≤ (x122_7 : Int) := of_decide_eq_true (by first | (with_reducible assumption) | assumption)
                              have q361 : x122_7 < (t339.length : Int) := of_decide_eq_true (by first | (with_reducible assumption) | assumption)
                              obtain ⟨ad361, e361, hx361_0⟩ := Kd.at_int (Kd.R_reads' HO_120.out).2.2 x122_7 p361 q361
                              cases e361
                              replace p361 := eq_true p361
                              replace q361 := eq_true q361
                              have p362 : 0 ≤ ((ji75) : Int) := of_decide_eq_true (by first | (with_reducible assumption) | assumption)
                              have q362 : (ji75) < (x10_4.length : Int) := of_decide_eq_true (by first | (with_reducible assumption) | assumption)
                              obtain ⟨ad362, e362, hx362_0⟩ := Kd.at_int (Kd.R_reads' HO_10.out).2.2 (ji75) p362 q362
                              cases e362
                              replace p362 := eq_true p362
                              replace q362 := eq_true q362
                              go_wp2
                              go_roundg k7
                              case measure => have := HJ5.out; have := HJ29.out; have := HK3.out; have := HK4.out; have := HK5.out; have := HJ65.out; have := HK7.out; omega
                              case rel => exact ⟨(wrap64 (x122_7 + 1)), (by first | rfl | (simp; done) | (simp [*]; done)), H', ⟨by have := HJ5.out; have := HJ29.out; have := HK3.out; have := HK4.out; have := HK5.out; have := HJ65.out; have := HK7.out; omega⟩, ⟨by (with_reducible repeat (first | apply Kd.R_alloc | apply Kd.R_drewN | apply Kd.R_drew)); exact HO_4.out⟩, ⟨by (with_reducible repeat (first | apply Kd.R_alloc | apply Kd.R_drewN | apply Kd.R_drew)); exact HO_5.out⟩, ⟨by (with_reducible repeat (first | apply Kd.R_alloc | apply Kd.R_drewN | apply Kd.R_drew)); exact HO_10.out⟩, ⟨by (with_reducible repeat (first | apply Kd.R_alloc | apply Kd.R_drewN | apply Kd.R_drew)); exact HO_120.out⟩, ⟨by (with_reducible repeat (first | apply Kd.S_alloc | apply Kd.S_drewN | apply Kd.S_drew)); exact HO_339001.out⟩, ⟨by (with_reducible repeat (first | refine blk_drewN ?_ _ | refine blk_drew ?_ | refine blk_alloc ?_ _)); exact BK338.out⟩, ⟨by repeat (first | (with_reducible first | exact HB.out | apply bwA | apply bwN | apply bwD | refine below_set ?_ GE338.out) | exact HB.out)⟩⟩
                            ·rw [if_neg c77] at H
                             exact absurd H (by simp)
                           ·rw [if_neg c76] at H
                            exact absurd H (by simp)
                          ·replace c73 := Bool.eq_false_iff.mpr c73
                           subst c73
                           have H1 : (laws_FnForced.l3 k7 t335 t339 t342 x10_4 false ji43 x73_3 t339 (t339.length : Int) (wrap64 (x122_7 + 1)) t331 t332) = some r := by rw [if_neg (show ¬ (false = true) by decide)] at H; exact H
                           clear H
                           have H := H1
                           clear H1
                           have H' := Aside0.mk H
                           clear H
                           have p361 : 0 ≤ (x122_7 : Int) := of_decide_eq_true (by first | (with_reducible assumption) | assumption)
                           have q361 : x122_7 < (t339.length : Int) := of_decide_eq_true (by first | (with_reducible assumption) | assumption)
                           obtain ⟨ad361, e361, hx361_0⟩ := Kd.at_int (Kd.R_reads' HO_120.out).2.2 x122_7 p361 q361
                           cases e361
                           replace p361 := eq_true p361
                           replace q361 := eq_true q361
                           go_wp2
                           go_roundg k7
                           case measure => have := HJ5.out; have := HJ29.out; have := HK3.out; have := HK4.out; have := HK5.out; have := HJ65.out; have := HK7.out; omega
                           case rel => exact ⟨(wrap64 (x122_7 + 1)), (by first | rfl | (simp; done) | (simp [*]; done)), H', ⟨by have := HJ5.out; have := HJ29.out; have := HK3.out; have := HK4.out; have := HK5.out; have := HJ65.out; have := HK7.out; omega⟩, ⟨by (with_reducible repeat (first | apply Kd.R_alloc | apply Kd.R_drewN | apply Kd.R_drew)); exact HO_4.out⟩, ⟨by (with_reducible repeat (first | apply Kd.R_alloc | apply Kd.R_drewN | apply Kd.R_drew)); exact HO_5.out⟩, ⟨by (with_reducible repeat (first | apply Kd.R_alloc | apply Kd.R_drewN | apply Kd.R_drew)); exact HO_10.out⟩, ⟨by (with_reducible repeat (first | apply Kd.R_alloc | apply Kd.R_drewN | apply Kd.R_drew)); exact HO_120.out⟩, ⟨by (with_reducible repeat (first | apply Kd.S_alloc | apply Kd.S_drewN | apply Kd.S_drew)); exact HO_339001.out⟩, ⟨by (with_reducible repeat (first | refine blk_drewN ?_ _ | refine blk_drew ?_ | refine blk_alloc ?_ _)); exact BK338.out⟩, ⟨by repeat (first | (with_reducible first | exact HB.out | apply bwA | apply bwN | apply bwD | refine below_set ?_ GE338.out) | exact HB.out)⟩⟩
                         ·rw [if_neg c72] at H
                          exact absurd H (by simp)
                        ·rw [if_neg c71] at H
                         exact absurd H (by simp)
                       ·rw [if_neg c70] at H
                        have c70b0 : decide (x122_7 < (t339.length : Int)) = false := decide_eq_false c70
                        clear c70
                        have H' := Aside0.mk H
                        clear H
                        go_wp2
                        go_roundg k7
                        case measure => have := HJ5.out; have := HJ29.out; have := HK3.out; have := HK4.out; have := HK5.out; have := HJ65.out; have := HK7.out; omega
                        case rel => exact ⟨(wrap64 (x73_3 + 1)), (by first | rfl | (simp; done) | (simp [*]; done)), H', ⟨by have := HJ5.out; have := HJ29.out; have := HK3.out; have := HK4.out; have := HK5.out; have := HJ65.out; have := HK7.out; omega⟩, ⟨by (with_reducible repeat (first | apply Kd.R_alloc | apply Kd.R_drewN | apply Kd.R_drew)); exact Kd.R_mono HO_4.out (fun _ hk => hk.1)⟩, ⟨by (with_reducible repeat (first | apply Kd.R_alloc | apply Kd.R_drewN | apply Kd.R_drew)); exact Kd.R_mono HO_5.out (fun _ hk => hk.1)⟩, ⟨by (with_reducible repeat (first | apply Kd.S_alloc | apply Kd.S_drewN | apply Kd.S_drew)); exact Kd.S_mono HO_339001.out (fun _ hk => ⟨hk.1, hk.2.1⟩)⟩, ⟨by (with_reducible repeat (first | refine blk_drewN ?_ _ | refine blk_drew ?_ | refine blk_alloc ?_ _)); exact BK338.out⟩, ⟨by repeat (first | (with_reducible first | exact HB.out | apply bwA | apply bwN | apply bwD | refine below_set ?_ GE338.out) | exact HB.out)⟩⟩
           ·rw [if_neg c45] at H
            have c45b0 : decide (x73_3 < ji43) = false := decide_eq_false c45
            clear c45
            obtain rfl := Option.some.inj H
            go_wp2
            go_ret
            exact ⟨by first | rfl | (simp [errW_none, errW_some] <;> rfl) | (simp only [← hji43]; first | rfl | (simp [errW_none, errW_some] <;> rfl)) | (simp [*, errW_none, errW_some] <;> rfl), by repeat (first | (with_reducible first | exact HB.out | apply bwA | apply bwN | apply bwD | refine below_set ?_ GE338.out) | exact HB.out)⟩
        ·rw [if_neg c42] at H
         exact absurd H (by simp)

/-- THE ONE PURE STATEMENT of laws_FnForced: yours. -/
def laws_FnForced.Pure : Prop := ∀ (l0 : List Int), l0.length ≤ maxLen → l0.length * 1 ≤ 140737488351232 → (∀ x ∈ l0, (Lit.int .u8 x).wf = true) → ∃ k, laws_FnForced.f k l0 = some true
theorem laws_FnForced.walk (P : laws_FnForced.Pure) (a0 : Option Addr) (len0 cap0 : Nat) (z0 : List Int) (w : World) (w0 : (a0 = none ∧ len0 = 0 ∧ cap0 = 0 ∧ z0 = []) ∨ ∃ x, a0 = some x ∧ len0 ≤ cap0 ∧ cap0 ≤ maxLen ∧ z0.length = cap0 ∧ (∀ i, i < z0.length → w.cell? (x.add i) = some (.int .u8 (z0.getD i 0))) ∧ ∀ n ∈ z0, (Lit.int .u8 n).wf = true) (y0 : len0 * 1 ≤ 140737488351232) :
  Calls Try.prog 4 #[.slice a0 len0 cap0] w fun e w' => e = .returned (.bool true) ∧ Below w.heap.size w w' := by
 obtain ⟨l0, rfl, hr0, hm0, hw0, hc0⟩ := ReadsInt.ofRowC w0
 obtain ⟨k, h⟩ := P l0 hm0 y0 hw0
 refine (laws_FnForced.calls k _ _ l0 true w (Kd.C_of_reads (d := (0 : Int)) (h1 := fun _ => rfl) hr0) hc0 h).mono ?_
 rintro e w' ⟨rfl, hd⟩
 exact ⟨rfl, hd⟩

end Go.Proofs.Ytkfmgfdbdgjfiaa.QFnForced
