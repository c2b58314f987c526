-- Written by a program of this session (mk.py). Lean checks it.
import Derived.Test.YtpfkgmcbogcmoaaQFnEvalUsedx0
import Derived.Test.YtpfkgmcbogcmoaaQFnEvalUsedx1
import Derived.Test.YtpfkgmcbogcmoaaQFnEvalUsedx2
import Derived.Test.YtpfkgmcbogcmoaaQFnEvalUsedx6
import Derived.Test.YtpfkgmcbogcmoaaQFnEvalUsedx7
namespace Go.Proofs.Ytpfkgmcbogcmoaa.QFnEvalUsed
open Go.RowKit Go.Proofs.YtpfkgmcbogcmoaaW.PrintWords Go.Proofs.YtpfkgmcbogcmoaaW.PrintLast Go.Proofs.YtpfkgmcbogcmoaaW.PrintMore
attribute [local go_sem] max2_int min2_int max_two min_two max_three min_three max_four min_four   -- for this text's walks alone
set_option linter.unusedVariables false
set_option linter.unusedSimpArgs false

/-! ### spec_l1Terms: function 68 -/
mutual
def spec_l1Terms.l0 : Nat → Int → Int → List (S73) → List Int → Int → List Int → Int → Option ((List (S73)) × Int)
 | 0, _, _, _, _, _, _, _ => none
 | k + 1, x1, x2, x9, x10, x11, x1000, x1001 => if x11 > 0 then ((spec_l40Rd_num.f k x1000 x1001 (([0, 1, 1, 2, 3, 4, 5, 6, 5, 6, 7, 8, 9] : List Int))).bind fun bt247 => (if (x9.length : Int) = 0 then (spec_l1Terms.j1 k x1 x2 x9 x10 x11 bt247.1 true x1000 bt247.2 bt247.1 0 0 0) else (spec_l1Terms.j1 k x1 x2 x9 x10 x11 bt247.1 (decide (bt247.1 < 2)) x1000 bt247.2 bt247.1 0 0 0))) else (if (x9.length : Int) = 0 then (if x9.length < 4398046511104 then (if x10.length < 17592186044416 then (spec_l1Terms.j4 k x2 (x9 ++ [(⟨0, 1, 0, 0⟩ : S73)]) (x10 ++ [1]) x1000 x1001) else (none)) else (none)) else (spec_l1Terms.j4 k x2 x9 x10 x1000 x1001))
def spec_l1Terms.j1 : Nat → Int → Int → List (S73) → List Int → Int → Int → Bool → List Int → Int → Int → Int → Int → Int → Option ((List (S73)) × Int)
 | 0, _, _, _, _, _, _, _, _, _, _, _, _, _ => none
 | k + 1, x1, x2, x9, x10, x11, x12, x39, x1000, x1001, x250000, x250001, x250002, x250003 => if x39 = true then ((spec_l1Number.f k x1000 x1001).bind fun bt250 => (if x1 > 0 then (spec_l1Terms.j2 k x1 x2 x9 x10 x11 (x12 != 0) x1000 bt250.2 0 bt250.1 0 0) else (spec_l1Terms.j2 k x1 x2 x9 x10 x11 false x1000 bt250.2 0 bt250.1 0 0))) else (if x12 ≥ 7 then (spec_l1Terms.j3 k x1 x2 x9 x10 x11 x12 2 x1000 x1001 x250000 x250001 x250002 x250003) else (spec_l1Terms.j3 k x1 x2 x9 x10 x11 x12 1 x1000 x1001 x250000 x250001 x250002 x250003))
def spec_l1Terms.j2 : Nat → Int → Int → List (S73) → List Int → Int → Bool → List Int → Int → Int → Int → Int → Int → Option ((List (S73)) × Int)
 | 0, _, _, _, _, _, _, _, _, _, _, _, _ => none
 | k + 1, x1, x2, x9, x10, x11, x48, x1000, x1001, x250000, x250001, x250002, x250003 => if x48 = true then ((spec_l40Rd_pick.f k x1000 x1001 x1).bind fun bt252 => ((spec_l1Kind.f k 1 bt252.1 0 0 x10 x1).bind fun t254 => (if t254 = 0 then (spec_l1Terms.l0 k x1 x2 x9 x10 (wrap64 (x11 - 1)) x1000 bt252.2) else (if x9.length < 4398046511104 then (if x10.length < 17592186044416 then (spec_l1Terms.l0 k x1 x2 (x9 ++ [(⟨1, bt252.1, 0, 0⟩ : S73)]) (x10 ++ [t254]) (wrap64 (x11 - 1)) x1000 bt252.2) else (none)) else (none))))) else ((spec_l1Kind.f k x250000 x250001 x250002 x250003 x10 x1).bind fun t261 => (if t261 = 0 then (spec_l1Terms.l0 k x1 x2 x9 x10 (wrap64 (x11 - 1)) x1000 x1001) else (if x9.length < 4398046511104 then (if x10.length < 17592186044416 then (spec_l1Terms.l0 k x1 x2 (x9 ++ [(⟨x250000, x250001, x250002, x250003⟩ : S73)]) (x10 ++ [t261]) (wrap64 (x11 - 1)) x1000 x1001) else (none)) else (none))))
def spec_l1Terms.j3 : Nat → Int → Int → List (S73) → List Int → Int → Int → Int → List Int → Int → Int → Int → Int → Int → Option ((List (S73)) × Int)
 | 0, _, _, _, _, _, _, _, _, _, _, _, _, _ => none
 | k + 1, x1, x2, x9, x10, x11, x12, x14, x1000, x1001, x250000, x250001, x250002, x250003 => (spec_l1Pick.f k x1000 x1001 x10 x14).bind fun bt268 => ((spec_l1Pick.f k x1000 bt268.2 x10 x14).bind fun bt270 => ((spec_l1One.f x12).bind fun t272 => (if t272 = true then ((spec_l1Kind.f k x250000 x250001 bt268.1 bt268.1 x10 x1).bind fun t273 => (if t273 = 0 then (spec_l1Terms.l0 k x1 x2 x9 x10 (wrap64 (x11 - 1)) x1000 bt270.2) else (if x9.length < 4398046511104 then (if x10.length < 17592186044416 then (spec_l1Terms.l0 k x1 x2 (x9 ++ [(⟨x250000, x250001, bt268.1, bt268.1⟩ : S73)]) (x10 ++ [t273]) (wrap64 (x11 - 1)) x1000 bt270.2) else (none)) else (none)))) else ((spec_l1Kind.f k x250000 x250001 bt268.1 bt270.1 x10 x1).bind fun t280 => (if t280 = 0 then (spec_l1Terms.l0 k x1 x2 x9 x10 (wrap64 (x11 - 1)) x1000 bt270.2) else (if x9.length < 4398046511104 then (if x10.length < 17592186044416 then (spec_l1Terms.l0 k x1 x2 (x9 ++ [(⟨x250000, x250001, bt268.1, bt270.1⟩ : S73)]) (x10 ++ [t280]) (wrap64 (x11 - 1)) x1000 bt270.2) else (none)) else (none)))))))
def spec_l1Terms.j4 : Nat → Int → List (S73) → List Int → List Int → Int → Option ((List (S73)) × Int)
 | 0, _, _, _, _, _ => none
 | k + 1, x2, x9, x10, x1000, x1001 => if x2 = 2 then (if 0 ≤ (wrap64 ((x9.length : Int) - 1)) then (if (wrap64 ((x9.length : Int) - 1)) < (x10.length : Int) then (spec_l1Terms.j5 k x2 x9 x10 (wrap64 ((x9.length : Int) - 1)) ((rd x10 (wrap64 ((x9.length : Int) - 1))) != x2) x1000 x1001) else (none)) else (none)) else (spec_l1Terms.j5 k x2 x9 x10 (wrap64 ((x9.length : Int) - 1)) false x1000 x1001)
def spec_l1Terms.j5 : Nat → Int → List (S73) → List Int → Int → Bool → List Int → Int → Option ((List (S73)) × Int)
 | 0, _, _, _, _, _, _, _ => none
 | k + 1, x2, x9, x10, x16, x106, x1000, x1001 => if x106 = true then ((spec_l40Rd_num.f k x1000 x1001 (([5, 6] : List Int))).bind fun bt297 => ((spec_l1Pick.f k x1000 bt297.2 x10 1).bind fun bt299 => (if x9.length < 4398046511104 then (some ((x9 ++ [(⟨bt297.1, 0, x16, bt299.1⟩ : S73)]), bt299.2)) else (none)))) else (if x2 = 1 then (if 0 ≤ x16 then (if x16 < (x10.length : Int) then (spec_l1Terms.j6 k x9 x10 ((rd x10 x16) != x2) x1000 x1001) else (none)) else (none)) else (spec_l1Terms.j6 k x9 x10 false x1000 x1001))
def spec_l1Terms.j6 : Nat → List (S73) → List Int → Bool → List Int → Int → Option ((List (S73)) × Int)
 | 0, _, _, _, _, _ => none
 | k + 1, x9, x10, x127, x1000, x1001 => if x127 = true then ((spec_l1Pick.f k x1000 x1001 x10 1).bind fun bt305 => ((spec_l40Rd_num.f k x1000 bt305.2 (([2, 3] : List Int))).bind fun bt310 => ((spec_l1Pick.f k x1000 bt310.2 x10 1).bind fun bt312 => (if x9.length < 4398046511104 then (some ((x9 ++ [(⟨bt310.1, 0, bt305.1, bt312.1⟩ : S73)]), bt312.2)) else (none))))) else (some (x9, x1001))
end
def spec_l1Terms.f (k : Nat) (s0_0 : List Int) (s0_1 : Int) (a1 : Int) (a2 : Int) (a3 : Int) : Option ((List (S73)) × Int) := (spec_l40Rd_pick.f k s0_0 s0_1 a3).bind fun bt242 => (spec_l1Terms.l0 k a1 a2 (([] : List (S73))) (([] : List Int)) (wrap64 (2 + bt242.1)) s0_0 bt242.2)
theorem spec_l1Terms.mono_l : ∀ k, (∀ y0 y1 y2 y3 y4 y5 y6, LeO (spec_l1Terms.l0 k y0 y1 y2 y3 y4 y5 y6) (spec_l1Terms.l0 (k + 1) y0 y1 y2 y3 y4 y5 y6)) ∧ (∀ y0 y1 y2 y3 y4 y5 y6 y7 y8 y9 y10 y11 y12, LeO (spec_l1Terms.j1 k y0 y1 y2 y3 y4 y5 y6 y7 y8 y9 y10 y11 y12) (spec_l1Terms.j1 (k + 1) y0 y1 y2 y3 y4 y5 y6 y7 y8 y9 y10 y11 y12)) ∧ (∀ y0 y1 y2 y3 y4 y5 y6 y7 y8 y9 y10 y11, LeO (spec_l1Terms.j2 k y0 y1 y2 y3 y4 y5 y6 y7 y8 y9 y10 y11) (spec_l1Terms.j2 (k + 1) y0 y1 y2 y3 y4 y5 y6 y7 y8 y9 y10 y11)) ∧ (∀ y0 y1 y2 y3 y4 y5 y6 y7 y8 y9 y10 y11 y12, LeO (spec_l1Terms.j3 k y0 y1 y2 y3 y4 y5 y6 y7 y8 y9 y10 y11 y12) (spec_l1Terms.j3 (k + 1) y0 y1 y2 y3 y4 y5 y6 y7 y8 y9 y10 y11 y12)) ∧ (∀ y0 y1 y2 y3 y4, LeO (spec_l1Terms.j4 k y0 y1 y2 y3 y4) (spec_l1Terms.j4 (k + 1) y0 y1 y2 y3 y4)) ∧ (∀ y0 y1 y2 y3 y4 y5 y6, LeO (spec_l1Terms.j5 k y0 y1 y2 y3 y4 y5 y6) (spec_l1Terms.j5 (k + 1) y0 y1 y2 y3 y4 y5 y6)) ∧ (∀ y0 y1 y2 y3 y4, LeO (spec_l1Terms.j6 k y0 y1 y2 y3 y4) (spec_l1Terms.j6 (k + 1) y0 y1 y2 y3 y4))
 | 0 => ⟨fun _ _ _ _ _ _ _ r h => by simp [spec_l1Terms.l0] at h, fun _ _ _ _ _ _ _ _ _ _ _ _ _ r h => by simp [spec_l1Terms.j1] at h, fun _ _ _ _ _ _ _ _ _ _ _ _ r h => by simp [spec_l1Terms.j2] at h, fun _ _ _ _ _ _ _ _ _ _ _ _ _ r h => by simp [spec_l1Terms.j3] at h, fun _ _ _ _ _ r h => by simp [spec_l1Terms.j4] at h, fun _ _ _ _ _ _ _ r h => by simp [spec_l1Terms.j5] at h, fun _ _ _ _ _ r h => by simp [spec_l1Terms.j6] at h⟩
 | k + 1 => by
  obtain ⟨ih0, ih1, ih2, ih3, ih4, ih5, ih6⟩ := spec_l1Terms.mono_l k
  refine ⟨?_, ?_, ?_, ?_, ?_, ?_, ?_⟩
  ·intro y0 y1 y2 y3 y4 y5 y6
   unfold spec_l1Terms.l0
   repeat' first
   | (with_reducible exact ih0 _ _ _ _ _ _ _)
   | (with_reducible exact ih1 _ _ _ _ _ _ _ _ _ _ _ _ _)
   | (with_reducible exact ih2 _ _ _ _ _ _ _ _ _ _ _ _)
   | (with_reducible exact ih3 _ _ _ _ _ _ _ _ _ _ _ _ _)
   | (with_reducible exact ih4 _ _ _ _ _)
   | (with_reducible exact ih5 _ _ _ _ _ _ _)
   | (with_reducible exact ih6 _ _ _ _ _)
   | (with_reducible exact spec_l1Kind.mono _ _ _ _ _ _ _)
   | (with_reducible exact spec_l1Number.mono _ _ _)
   | (with_reducible exact spec_l1Pick.mono _ _ _ _ _)
   | (with_reducible exact spec_l40Rd_num.mono _ _ _ _)
   | (with_reducible exact spec_l40Rd_pick.mono _ _ _ _)
   | (with_reducible exact LeO.refl _)
   | (with_reducible exact LeO.none _)
   | (with_reducible refine LeO.ite ?_ ?_)
   | (with_reducible refine LeO.bind ?_ (fun _ => ?_))
   | exact ih0 _ _ _ _ _ _ _
   | exact ih1 _ _ _ _ _ _ _ _ _ _ _ _ _
   | exact ih2 _ _ _ _ _ _ _ _ _ _ _ _
   | exact ih3 _ _ _ _ _ _ _ _ _ _ _ _ _
   | exact ih4 _ _ _ _ _
   | exact ih5 _ _ _ _ _ _ _
   | exact ih6 _ _ _ _ _
   | exact spec_l1Kind.mono _ _ _ _ _ _ _
   | exact spec_l1Number.mono _ _ _
   | exact spec_l1Pick.mono _ _ _ _ _
   | exact spec_l40Rd_num.mono _ _ _ _
   | exact spec_l40Rd_pick.mono _ _ _ _
   | exact LeO.none _
   | refine LeO.ite ?_ ?_
   | refine LeO.bind ?_ (fun _ => ?_)
  ·intro y0 y1 y2 y3 y4 y5 y6 y7 y8 y9 y10 y11 y12
   unfold spec_l1Terms.j1
   repeat' first
   | (with_reducible exact ih0 _ _ _ _ _ _ _)
   | (with_reducible exact ih1 _ _ _ _ _ _ _ _ _ _ _ _ _)
   | (with_reducible exact ih2 _ _ _ _ _ _ _ _ _ _ _ _)
   | (with_reducible exact ih3 _ _ _ _ _ _ _ _ _ _ _ _ _)
   | (with_reducible exact ih4 _ _ _ _ _)
   | (with_reducible exact ih5 _ _ _ _ _ _ _)
   | (with_reducible exact ih6 _ _ _ _ _)
   | (with_reducible exact spec_l1Kind.mono _ _ _ _ _ _ _)
   | (with_reducible exact spec_l1Number.mono _ _ _)
   | (with_reducible exact spec_l1Pick.mono _ _ _ _ _)
   | (with_reducible exact spec_l40Rd_num.mono _ _ _ _)
   | (with_reducible exact spec_l40Rd_pick.mono _ _ _ _)
   | (with_reducible exact LeO.refl _)
   | (with_reducible exact LeO.none _)
   | (with_reducible refine LeO.ite ?_ ?_)
   | (with_reducible refine LeO.bind ?_ (fun _ => ?_))
   | exact ih0 _ _ _ _ _ _ _
   | exact ih1 _ _ _ _ _ _ _ _ _ _ _ _ _
   | exact ih2 _ _ _ _ _ _ _ _ _ _ _ _
   | exact ih3 _ _ _ _ _ _ _ _ _ _ _ _ _
   | exact ih4 _ _ _ _ _
   | exact ih5 _ _ _ _ _ _ _
   | exact ih6 _ _ _ _ _
   | exact spec_l1Kind.mono _ _ _ _ _ _ _
   | exact spec_l1Number.mono _ _ _
   | exact spec_l1Pick.mono _ _ _ _ _
   | exact spec_l40Rd_num.mono _ _ _ _
   | exact spec_l40Rd_pick.mono _ _ _ _
   | exact LeO.none _
   | refine LeO.ite ?_ ?_
   | refine LeO.bind ?_ (fun _ => ?_)
  ·intro y0 y1 y2 y3 y4 y5 y6 y7 y8 y9 y10 y11
   unfold spec_l1Terms.j2
   repeat' first
   | (with_reducible exact ih0 _ _ _ _ _ _ _)
   | (with_reducible exact ih1 _ _ _ _ _ _ _ _ _ _ _ _ _)
   | (with_reducible exact ih2 _ _ _ _ _ _ _ _ _ _ _ _)
   | (with_reducible exact ih3 _ _ _ _ _ _ _ _ _ _ _ _ _)
   | (with_reducible exact ih4 _ _ _ _ _)
   | (with_reducible exact ih5 _ _ _ _ _ _ _)
   | (with_reducible exact ih6 _ _ _ _ _)
   | (with_reducible exact spec_l1Kind.mono _ _ _ _ _ _ _)
   | (with_reducible exact spec_l1Number.mono _ _ _)
   | (with_reducible exact spec_l1Pick.mono _ _ _ _ _)
   | (with_reducible exact spec_l40Rd_num.mono _ _ _ _)
   | (with_reducible exact spec_l40Rd_pick.mono _ _ _ _)
   | (with_reducible exact LeO.refl _)
   | (with_reducible exact LeO.none _)
   | (with_reducible refine LeO.ite ?_ ?_)
   | (with_reducible refine LeO.bind ?_ (fun _ => ?_))
   | exact ih0 _ _ _ _ _ _ _
   | exact ih1 _ _ _ _ _ _ _ _ _ _ _ _ _
   | exact ih2 _ _ _ _ _ _ _ _ _ _ _ _
   | exact ih3 _ _ _ _ _ _ _ _ _ _ _ _ _
   | exact ih4 _ _ _ _ _
   | exact ih5 _ _ _ _ _ _ _
   | exact ih6 _ _ _ _ _
   | exact spec_l1Kind.mono _ _ _ _ _ _ _
   | exact spec_l1Number.mono _ _ _
   | exact spec_l1Pick.mono _ _ _ _ _
   | exact spec_l40Rd_num.mono _ _ _ _
   | exact spec_l40Rd_pick.mono _ _ _ _
   | exact LeO.none _
   | refine LeO.ite ?_ ?_
   | refine LeO.bind ?_ (fun _ => ?_)
  ·intro y0 y1 y2 y3 y4 y5 y6 y7 y8 y9 y10 y11 y12
   unfold spec_l1Terms.j3
   repeat' first
   | (with_reducible exact ih0 _ _ _ _ _ _ _)
   | (with_reducible exact ih1 _ _ _ _ _ _ _ _ _ _ _ _ _)
   | (with_reducible exact ih2 _ _ _ _ _ _ _ _ _ _ _ _)
   | (with_reducible exact ih3 _ _ _ _ _ _ _ _ _ _ _ _ _)
   | (with_reducible exact ih4 _ _ _ _ _)
   | (with_reducible exact ih5 _ _ _ _ _ _ _)
   | (with_reducible exact ih6 _ _ _ _ _)
   | (with_reducible exact spec_l1Kind.mono _ _ _ _ _ _ _)
   | (with_reducible exact spec_l1Number.mono _ _ _)
   | (with_reducible exact spec_l1Pick.mono _ _ _ _ _)
   | (with_reducible exact spec_l40Rd_num.mono _ _ _ _)
   | (with_reducible exact spec_l40Rd_pick.mono _ _ _ _)
   | (with_reducible exact LeO.refl _)
   | (with_reducible exact LeO.none _)
   | (with_reducible refine LeO.ite ?_ ?_)
   | (with_reducible refine LeO.bind ?_ (fun _ => ?_))
   | exact ih0 _ _ _ _ _ _ _
   | exact ih1 _ _ _ _ _ _ _ _ _ _ _ _ _
   | exact ih2 _ _ _ _ _ _ _ _ _ _ _ _
   | exact ih3 _ _ _ _ _ _ _ _ _ _ _ _ _
   | exact ih4 _ _ _ _ _
   | exact ih5 _ _ _ _ _ _ _
   | exact ih6 _ _ _ _ _
   | exact spec_l1Kind.mono _ _ _ _ _ _ _
   | exact spec_l1Number.mono _ _ _
   | exact spec_l1Pick.mono _ _ _ _ _
   | exact spec_l40Rd_num.mono _ _ _ _
   | exact spec_l40Rd_pick.mono _ _ _ _
   | exact LeO.none _
   | refine LeO.ite ?_ ?_
   | refine LeO.bind ?_ (fun _ => ?_)
  ·intro y0 y1 y2 y3 y4
   unfold spec_l1Terms.j4
   repeat' first
   | (with_reducible exact ih0 _ _ _ _ _ _ _)
   | (with_reducible exact ih1 _ _ _ _ _ _ _ _ _ _ _ _ _)
   | (with_reducible exact ih2 _ _ _ _ _ _ _ _ _ _ _ _)
   | (with_reducible exact ih3 _ _ _ _ _ _ _ _ _ _ _ _ _)
   | (with_reducible exact ih4 _ _ _ _ _)
   | (with_reducible exact ih5 _ _ _ _ _ _ _)
   | (with_reducible exact ih6 _ _ _ _ _)
   | (with_reducible exact spec_l1Kind.mono _ _ _ _ _ _ _)
   | (with_reducible exact spec_l1Number.mono _ _ _)
   | (with_reducible exact spec_l1Pick.mono _ _ _ _ _)
   | (with_reducible exact spec_l40Rd_num.mono _ _ _ _)
   | (with_reducible exact spec_l40Rd_pick.mono _ _ _ _)
   | (with_reducible exact LeO.refl _)
   | (with_reducible exact LeO.none _)
   | (with_reducible refine LeO.ite ?_ ?_)
   | (with_reducible refine LeO.bind ?_ (fun _ => ?_))
   | exact ih0 _ _ _ _ _ _ _
   | exact ih1 _ _ _ _ _ _ _ _ _ _ _ _ _
   | exact ih2 _ _ _ _ _ _ _ _ _ _ _ _
   | exact ih3 _ _ _ _ _ _ _ _ _ _ _ _ _
   | exact ih4 _ _ _ _ _
   | exact ih5 _ _ _ _ _ _ _
   | exact ih6 _ _ _ _ _
   | exact spec_l1Kind.mono _ _ _ _ _ _ _
   | exact spec_l1Number.mono _ _ _
   | exact spec_l1Pick.mono _ _ _ _ _
   | exact spec_l40Rd_num.mono _ _ _ _
   | exact spec_l40Rd_pick.mono _ _ _ _
   | exact LeO.none _
   | refine LeO.ite ?_ ?_
   | refine LeO.bind ?_ (fun _ => ?_)
  ·intro y0 y1 y2 y3 y4 y5 y6
   unfold spec_l1Terms.j5
   repeat' first
   | (with_reducible exact ih0 _ _ _ _ _ _ _)
   | (with_reducible exact ih1 _ _ _ _ _ _ _ _ _ _ _ _ _)
   | (with_reducible exact ih2 _ _ _ _ _ _ _ _ _ _ _ _)
   | (with_reducible exact ih3 _ _ _ _ _ _ _ _ _ _ _ _ _)
   | (with_reducible exact ih4 _ _ _ _ _)
   | (with_reducible exact ih5 _ _ _ _ _ _ _)
   | (with_reducible exact ih6 _ _ _ _ _)
   | (with_reducible exact spec_l1Kind.mono _ _ _ _ _ _ _)
   | (with_reducible exact spec_l1Number.mono _ _ _)
   | (with_reducible exact spec_l1Pick.mono _ _ _ _ _)
   | (with_reducible exact spec_l40Rd_num.mono _ _ _ _)
   | (with_reducible exact spec_l40Rd_pick.mono _ _ _ _)
   | (with_reducible exact LeO.refl _)
   | (with_reducible exact LeO.none _)
   | (with_reducible refine LeO.ite ?_ ?_)
   | (with_reducible refine LeO.bind ?_ (fun _ => ?_))
   | exact ih0 _ _ _ _ _ _ _
   | exact ih1 _ _ _ _ _ _ _ _ _ _ _ _ _
   | exact ih2 _ _ _ _ _ _ _ _ _ _ _ _
   | exact ih3 _ _ _ _ _ _ _ _ _ _ _ _ _
   | exact ih4 _ _ _ _ _
   | exact ih5 _ _ _ _ _ _ _
   | exact ih6 _ _ _ _ _
   | exact spec_l1Kind.mono _ _ _ _ _ _ _
   | exact spec_l1Number.mono _ _ _
   | exact spec_l1Pick.mono _ _ _ _ _
   | exact spec_l40Rd_num.mono _ _ _ _
   | exact spec_l40Rd_pick.mono _ _ _ _
   | exact LeO.none _
   | refine LeO.ite ?_ ?_
   | refine LeO.bind ?_ (fun _ => ?_)
  ·intro y0 y1 y2 y3 y4
   unfold spec_l1Terms.j6
   repeat' first
   | (with_reducible exact ih0 _ _ _ _ _ _ _)
   | (with_reducible exact ih1 _ _ _ _ _ _ _ _ _ _ _ _ _)
   | (with_reducible exact ih2 _ _ _ _ _ _ _ _ _ _ _ _)
   | (with_reducible exact ih3 _ _ _ _ _ _ _ _ _ _ _ _ _)
   | (with_reducible exact ih4 _ _ _ _ _)
   | (with_reducible exact ih5 _ _ _ _ _ _ _)
   | (with_reducible exact ih6 _ _ _ _ _)
   | (with_reducible exact spec_l1Kind.mono _ _ _ _ _ _ _)
   | (with_reducible exact spec_l1Number.mono _ _ _)
   | (with_reducible exact spec_l1Pick.mono _ _ _ _ _)
   | (with_reducible exact spec_l40Rd_num.mono _ _ _ _)
   | (with_reducible exact spec_l40Rd_pick.mono _ _ _ _)
   | (with_reducible exact LeO.refl _)
   | (with_reducible exact LeO.none _)
   | (with_reducible refine LeO.ite ?_ ?_)
   | (with_reducible refine LeO.bind ?_ (fun _ => ?_))
   | exact ih0 _ _ _ _ _ _ _
   | exact ih1 _ _ _ _ _ _ _ _ _ _ _ _ _
   | exact ih2 _ _ _ _ _ _ _ _ _ _ _ _
   | exact ih3 _ _ _ _ _ _ _ _ _ _ _ _ _
   | exact ih4 _ _ _ _ _
   | exact ih5 _ _ _ _ _ _ _
   | exact ih6 _ _ _ _ _
   | exact spec_l1Kind.mono _ _ _ _ _ _ _
   | exact spec_l1Number.mono _ _ _
   | exact spec_l1Pick.mono _ _ _ _ _
   | exact spec_l40Rd_num.mono _ _ _ _
   | exact spec_l40Rd_pick.mono _ _ _ _
   | exact LeO.none _
   | refine LeO.ite ?_ ?_
   | refine LeO.bind ?_ (fun _ => ?_)
theorem spec_l1Terms.mono : ∀ a0 a1 a2 a3 a4 k, LeO (spec_l1Terms.f k a0 a1 a2 a3 a4) (spec_l1Terms.f (k + 1) a0 a1 a2 a3 a4) := by
 intro a0 a1 a2 a3 a4 k
 obtain ⟨ih0, ih1, ih2, ih3, ih4, ih5, ih6⟩ := spec_l1Terms.mono_l k
 unfold spec_l1Terms.f
 repeat' first
   | (with_reducible exact ih0 _ _ _ _ _ _ _)
   | (with_reducible exact ih1 _ _ _ _ _ _ _ _ _ _ _ _ _)
   | (with_reducible exact ih2 _ _ _ _ _ _ _ _ _ _ _ _)
   | (with_reducible exact ih3 _ _ _ _ _ _ _ _ _ _ _ _ _)
   | (with_reducible exact ih4 _ _ _ _ _)
   | (with_reducible exact ih5 _ _ _ _ _ _ _)
   | (with_reducible exact ih6 _ _ _ _ _)
   | (with_reducible exact spec_l1Kind.mono _ _ _ _ _ _ _)
   | (with_reducible exact spec_l1Number.mono _ _ _)
   | (with_reducible exact spec_l1Pick.mono _ _ _ _ _)
   | (with_reducible exact spec_l40Rd_num.mono _ _ _ _)
   | (with_reducible exact spec_l40Rd_pick.mono _ _ _ _)
   | (with_reducible exact LeO.refl _)
   | (with_reducible exact LeO.none _)
   | (with_reducible refine LeO.ite ?_ ?_)
   | (with_reducible refine LeO.bind ?_ (fun _ => ?_))
   | exact ih0 _ _ _ _ _ _ _
   | exact ih1 _ _ _ _ _ _ _ _ _ _ _ _ _
   | exact ih2 _ _ _ _ _ _ _ _ _ _ _ _
   | exact ih3 _ _ _ _ _ _ _ _ _ _ _ _ _
   | exact ih4 _ _ _ _ _
   | exact ih5 _ _ _ _ _ _ _
   | exact ih6 _ _ _ _ _
   | exact spec_l1Kind.mono _ _ _ _ _ _ _
   | exact spec_l1Number.mono _ _ _
   | exact spec_l1Pick.mono _ _ _ _ _
   | exact spec_l40Rd_num.mono _ _ _ _
   | exact spec_l40Rd_pick.mono _ _ _ _
   | exact LeO.none _
   | refine LeO.ite ?_ ?_
   | refine LeO.bind ?_ (fun _ => ?_)
set_option maxHeartbeats 8000000 in
set_option maxRecDepth 100000 in
theorem spec_l1Terms.calls (k : Nat) (g : Nat) (s0_0 : List Int) (s0_1 : Int) (a1 : Int) (a2 : Int) (a3 : Int) (r1 : List (S73)) (r2 : Int) (w0 w : World) (hI : IsS119 w0 w g s0_0 s0_1) (hB : Below w0.heap.size w0 w) (h : spec_l1Terms.f k s0_0 s0_1 a1 a2 a3 = some (r1, r2)) :
  Calls Try.prog 68 #[.pointer (some ⟨g, 0, none⟩), .int .i64 a1, .int .i64 a2, .int .i64 a3] w fun e w' => ∃ v0_ : Value, e = .returned (v0_) ∧ Kd.R k73 73 w' w.heap.size (fun _ => True) v0_ r1 ∧ IsS119 w0 w' g s0_0 r2 ∧ Below w0.heap.size w0 w' ∧ KeepBut w w' g none := by
 have hu73 := Try.underlying73
 have HI0 := Aside0.mk hI
 have HK := Aside0.mk (KeepBut.refl w g none)
 have HL := Aside0.mk hB.size
 clear hI
 have HW0 := Aside0.mk hB.size
 have HB := Aside0.mk hB
 clear hB
 have H : ((spec_l40Rd_pick.f k s0_0 s0_1 a3).bind fun bt242 => (spec_l1Terms.l0 k a1 a2 (([] : List (S73))) (([] : List Int)) (wrap64 (2 + bt242.1)) s0_0 bt242.2)) = some (r1, r2) := h
 clear h
 obtain ⟨y236, hy236⟩ : ∃ y_ : List (S73), y_ = (([] : List (S73))) := ⟨_, rfl⟩
 replace H : ((spec_l40Rd_pick.f k s0_0 s0_1 a3).bind fun bt242 => (spec_l1Terms.l0 k a1 a2 y236 (([] : List Int)) (wrap64 (2 + bt242.1)) s0_0 bt242.2)) = some (r1, r2) := by first | (rw [hy236]; with_reducible exact H) | (have H2_ := (Option.bind_some _ _).symm.trans H; rw [hy236]; with_reducible exact H2_) | (have H2_ := (Option.bind_some _ _).symm.trans H; with_reducible exact H2_) | with_reducible exact H | (rw [hy236]; exact H) | exact H
 have Ny236 := Aside0.mk hy236
 clear hy236
 obtain ⟨y239, hy239⟩ : ∃ y_ : List Int, y_ = (([] : List Int)) := ⟨_, rfl⟩
 replace H : ((spec_l40Rd_pick.f k s0_0 s0_1 a3).bind fun bt242 => (spec_l1Terms.l0 k a1 a2 y236 y239 (wrap64 (2 + bt242.1)) s0_0 bt242.2)) = some (r1, r2) := by first | (rw [hy239]; with_reducible exact H) | (have H2_ := (Option.bind_some _ _).symm.trans H; rw [hy239]; with_reducible exact H2_) | (have H2_ := (Option.bind_some _ _).symm.trans H; with_reducible exact H2_) | with_reducible exact H | (rw [hy239]; exact H) | exact H
 have Ny239 := Aside0.mk hy239
 clear hy239
 replace H := Option.bind_eq_some_iff.mp H
 obtain ⟨⟨t242, t243⟩, A50, H⟩ := H
 replace H : (spec_l1Terms.l0 k a1 a2 y236 y239 (wrap64 (2 + t242)) s0_0 t243) = some (r1, r2) := H
 have A5 := Aside0.mk A50
 clear A50
 have H' := Aside0.mk H
 clear H
 go_enter Try.func68, Try.ntmps68
 go_wp2_with (first | ((with_reducible refine gate_dst (N := 18) rfl ?_); refine Kd.R_lit k73 _ 73 ?hg (N := 18) ?hd (xs := ([] : List (S73))) (inner := []) (ok := fun _ => True) (okp := fun _ => True) ?hr ?hp (fun _ hk => hk) trivial (Below.refl _ _) (Nat.le_refl _) (by simp) ?_; (case hd => rfl); (case hg => rfl); (case hr => first | (go_simp; done) | (go_simp; rfl)); (case hp => exact (Reps.none _ _)); intro v237 w6 ho7 hb hg_ hnew_; clear hg_ hnew_; (first | rw [← Ny236.out] at ho7 | (simp only [Int.reduceToNat] at ho7; rw [← Ny236.out] at ho7)); have n0_ := Aside0.mk (Kd.R_lower ho7 (keep_size (w := w) (g := g) (row := none) (by repeat (first | (with_reducible first | exact HK.out | apply KeepBut.set_ | apply keep_drewN | apply keep_drew | apply keep_alloc) | exact HK.out)))); have n1_ := Aside0.mk (IsS119.below (by repeat (first | (with_reducible first | exact HI0.out | apply IsS119.alloc | apply IsS119.drewN | apply IsS119.drew | apply IsS119.set_1) | exact HI0.out)) hb); have n2_ := Aside0.mk (KeepBut.trans (by repeat (first | (with_reducible first | exact HK.out | apply KeepBut.set_ | apply keep_drewN | apply keep_drew | apply keep_alloc) | exact HK.out)) (KeepBut.of_below hb g none) (.inl rfl)); have n3_ := Aside0.mk (below_step (by repeat (first | (with_reducible first | exact HB.out | apply bwA | apply bwN | apply bwD | refine below_set ?_ (IsS119.ge HI0.out)) | exact HB.out)) hb); clear HI0; clear HK; clear HB; have HO238 := n0_; have HI0 := n1_; have HK := n2_; have HB := n3_; clear n0_ n1_ n2_ n3_; clear hb ho7) | ((with_reducible refine gate_dst (N := 19) rfl ?_); refine Kd.R_lit (Kd.int .i64) _ 3 ?hg (N := 19) ?hd (xs := ([] : List Int)) (inner := []) (ok := fun _ => True) (okp := fun _ => True) ?hr ?hp (fun _ hk => hk) trivial (Below.refl _ _) (Nat.le_refl _) (by simp) ?_; (case hd => rfl); (case hg => rfl); (case hr => first | (go_simp; done) | (go_simp; rfl)); (case hp => exact (Reps.none _ _)); intro v240 w8 ho9 hb hg_ hnew_; clear hg_ hnew_; (first | rw [← Ny239.out] at ho9 | (simp only [Int.reduceToNat] at ho9; rw [← Ny239.out] at ho9)); have n0_ := Aside0.mk (Kd.R_below (by (with_reducible repeat (first | apply Kd.R_alloc | apply Kd.R_drewN | apply Kd.R_drew)); exact HO238.out) hb); have n1_ := Aside0.mk (Kd.R_lower ho9 (keep_size (w := w) (g := g) (row := none) (by repeat (first | (with_reducible first | exact HK.out | apply KeepBut.set_ | apply keep_drewN | apply keep_drew | apply keep_alloc) | exact HK.out)))); have n2_ := Aside0.mk (IsS119.below (by repeat (first | (with_reducible first | exact HI0.out | apply IsS119.alloc | apply IsS119.drewN | apply IsS119.drew | apply IsS119.set_1) | exact HI0.out)) hb); have n3_ := Aside0.mk (KeepBut.trans (by repeat (first | (with_reducible first | exact HK.out | apply KeepBut.set_ | apply keep_drewN | apply keep_drew | apply keep_alloc) | exact HK.out)) (KeepBut.of_below hb g none) (.inl rfl)); have n4_ := Aside0.mk (below_step (by repeat (first | (with_reducible first | exact HB.out | apply bwA | apply bwN | apply bwD | refine below_set ?_ (IsS119.ge HI0.out)) | exact HB.out)) hb); clear HO238; clear HI0; clear HK; clear HB; have HO238 := n0_; have HO241 := n1_; have HI0 := n2_; have HK := n3_; have HB := n4_; clear n0_ n1_ n2_ n3_ n4_; clear hb ho9) | ((with_reducible refine gate_callee (f := 67) rfl ?_); refine goesL_ (some 22) rfl rfl Try.func67 (by kernel_rfl) rfl #[.pointer (some ⟨g, 0, none⟩), .int .i64 a3] rfl (by (try simp only [List.map_toArray, List.map_cons, List.map_nil]); first | done | rfl | (simp only [List.length_drop, List.length_take]; rfl)) ?_; (with_reducible refine (spec_l40Rd_pick.calls k g s0_0 s0_1 a3 t242 t243 w0 _ ?side1 ?side2 A5.out).mono ?_); (case side1 => repeat (first | (with_reducible first | exact HI0.out | apply IsS119.alloc | apply IsS119.drewN | apply IsS119.drew | apply IsS119.set_1) | exact HI0.out)); (case side2 => repeat (first | (with_reducible first | exact HB.out | apply bwA | apply bwN | apply bwD | refine below_set ?_ (IsS119.ge HI0.out)) | exact HB.out)); rintro e w10 ⟨rfl, hi, hb, hk⟩; refine ⟨_, rfl, ?_⟩; have n0_ := Aside0.mk (Kd.R_mono (Kd.R_keep (IsS119.apart (show IsS119 w0 _ g s0_0 s0_1 from by repeat (first | (with_reducible first | exact HI0.out | apply IsS119.alloc | apply IsS119.drewN | apply IsS119.drew | apply IsS119.set_1) | exact HI0.out)) (by (with_reducible repeat (first | apply Kd.R_alloc | apply Kd.R_drewN | apply Kd.R_drew)); exact HO238.out) (by decide)) hk (fun _ h => h.2)) (fun _ h => h.1)); have n1_ := Aside0.mk (Kd.R_mono (Kd.R_keep (IsS119.apart (show IsS119 w0 _ g s0_0 s0_1 from by repeat (first | (with_reducible first | exact HI0.out | apply IsS119.alloc | apply IsS119.drewN | apply IsS119.drew | apply IsS119.set_1) | exact HI0.out)) (by (with_reducible repeat (first | apply Kd.R_alloc | apply Kd.R_drewN | apply Kd.R_drew)); exact HO241.out) (by decide)) hk (fun _ h => h.2)) (fun _ h => h.1)); have n2_ := Aside0.mk (KeepBut.trans (by repeat (first | (with_reducible first | exact HK.out | apply KeepBut.set_ | apply keep_drewN | apply keep_drew | apply keep_alloc) | exact HK.out)) hk (.inl rfl)); have n3_ := Aside0.mk (hb); have n4_ := Aside0.mk (hi); clear HO238; clear HO241; clear HK; clear HB; clear HI0; have HO238 := n0_; have HO241 := n1_; have HK := n2_; have HB := n3_; have HI0 := n4_; clear n0_ n1_ n2_ n3_ n4_; (try clear hb); (try clear hb2); (try clear hk); (try clear hi)))
 go_loopg [9, 10, 11] k (fun kq v9 v10 v11 w' => ∃ (x9_1 : List (S73)) (x10_1 : List Int) (x11_1 : Int) (x1001_1 : Int), v11 = .int .i64 x11_1 ∧ Aside0 (spec_l1Terms.l0 kq a1 a2 x9_1 x10_1 x11_1 s0_0 x1001_1 = some (r1, r2)) ∧ Aside0 (kq ≤ k) ∧ Aside0 (Kd.R k73 73 w' w.heap.size (fun _ => True) v9 x9_1) ∧ Aside0 (Kd.R (Kd.int .i64) 3 w' w.heap.size (fun _ => True) v10 x10_1) ∧ Aside0 (IsS119 w0 w' g s0_0 x1001_1) ∧ Aside0 (KeepBut w w' g none) ∧ Aside0 (Below w0.heap.size w0 w'))
 case atStart => exact ⟨(y236), (y239), (wrap64 (2 + t242)), (t243), (by first | rfl | (simp; done) | (simp [*]; done)), H', ⟨Nat.le_refl _⟩, ⟨by (with_reducible repeat (first | apply Kd.R_alloc | apply Kd.R_drewN | apply Kd.R_drew)); exact HO238.out⟩, ⟨by (with_reducible repeat (first | apply Kd.R_alloc | apply Kd.R_drewN | apply Kd.R_drew)); exact HO241.out⟩, ⟨by repeat (first | (with_reducible first | exact HI0.out | apply IsS119.alloc | apply IsS119.drewN | apply IsS119.drew | apply IsS119.set_1) | exact HI0.out)⟩, ⟨by repeat (first | (with_reducible first | exact HK.out | apply KeepBut.set_ | apply keep_drewN | apply keep_drew | apply keep_alloc) | exact HK.out)⟩, ⟨by repeat (first | (with_reducible first | exact HB.out | apply bwA | apply bwN | apply bwD | refine below_set ?_ (IsS119.ge HI0.out)) | exact HB.out)⟩⟩
 case round =>
  clear H'
  try clear p2
  try clear c6
  try clear p6
  obtain ⟨x9_1, x10_1, x11_1, x1001_1, rfl, HA, HK1, HO_9, HO_10, HI0, HK, HB⟩ := hrel
  cases gk with
  | zero => exact absurd HA.out (by simp [spec_l1Terms.l0])
  | succ k1 =>
   have H := HA.out
   clear HA
   simp only [spec_l1Terms.l0] at H
   by_cases c11 : x11_1 > 0
   ·rw [if_pos c11] at H
    have c11b0 : decide (0 < x11_1) = true := decide_eq_true c11
    clear c11
    obtain ⟨y244, hy244⟩ : ∃ y_ : List Int, y_ = (([0, 1, 1, 2, 3, 4, 5, 6, 5, 6, 7, 8, 9] : List Int)) := ⟨_, rfl⟩
    replace H : ((spec_l40Rd_num.f k1 s0_0 x1001_1 y244).bind fun bt247 => (if (x9_1.length : Int) = 0 then (spec_l1Terms.j1 k1 a1 a2 x9_1 x10_1 x11_1 bt247.1 true s0_0 bt247.2 bt247.1 0 0 0) else (spec_l1Terms.j1 k1 a1 a2 x9_1 x10_1 x11_1 bt247.1 (decide (bt247.1 < 2)) s0_0 bt247.2 bt247.1 0 0 0))) = some (r1, r2) := by first | (rw [hy244]; with_reducible exact H) | (have H2_ := (Option.bind_some _ _).symm.trans H; rw [hy244]; with_reducible exact H2_) | (have H2_ := (Option.bind_some _ _).symm.trans H; with_reducible exact H2_) | with_reducible exact H | (rw [hy244]; exact H) | exact H
    have Ny244 := Aside0.mk hy244
    clear hy244
    replace H := Option.bind_eq_some_iff.mp H
    obtain ⟨⟨t247, t248⟩, A120, H⟩ := H
    replace H : (if (x9_1.length : Int) = 0 then (spec_l1Terms.j1 k1 a1 a2 x9_1 x10_1 x11_1 t247 true s0_0 t248 t247 0 0 0) else (spec_l1Terms.j1 k1 a1 a2 x9_1 x10_1 x11_1 t247 (decide (t247 < 2)) s0_0 t248 t247 0 0 0)) = some (r1, r2) := H
    have A12 := Aside0.mk A120
    clear A120
    have HC13 := Aside0.mk H
    clear H
    go_upto_region 8 with (first | ((with_reducible refine gate_dst (N := 29) rfl ?_); refine Kd.R_lit (Kd.int .i64) _ 3 ?hg (N := 29) ?hd (xs := ([0, 1, 1, 2, 3, 4, 5, 6, 5, 6, 7, 8, 9] : List Int)) (inner := [.int .i64 0, .int .i64 1, .int .i64 1, .int .i64 2, .int .i64 3, .int .i64 4, .int .i64 5, .int .i64 6, .int .i64 5, .int .i64 6, .int .i64 7, .int .i64 8, .int .i64 9]) (ok := fun _ => True) (okp := fun _ => True) ?hr ?hp (fun _ hk => hk) trivial (Below.refl _ _) (Nat.le_refl _) (by simp) ?_; (case hd => rfl); (case hg => rfl); (case hr => first | (go_simp; done) | (go_simp; rfl)); (case hp => exact (Reps.one (show Kd.M (Kd.int .i64) _ _ _ 0 [.int .i64 0] from rfl) (Reps.one (show Kd.M (Kd.int .i64) _ _ _ 1 [.int .i64 1] from rfl) (Reps.one (show Kd.M (Kd.int .i64) _ _ _ 1 [.int .i64 1] from rfl) (Reps.one (show Kd.M (Kd.int .i64) _ _ _ 2 [.int .i64 2] from rfl) (Reps.one (show Kd.M (Kd.int .i64) _ _ _ 3 [.int .i64 3] from rfl) (Reps.one (show Kd.M (Kd.int .i64) _ _ _ 4 [.int .i64 4] from rfl) (Reps.one (show Kd.M (Kd.int .i64) _ _ _ 5 [.int .i64 5] from rfl) (Reps.one (show Kd.M (Kd.int .i64) _ _ _ 6 [.int .i64 6] from rfl) (Reps.one (show Kd.M (Kd.int .i64) _ _ _ 5 [.int .i64 5] from rfl) (Reps.one (show Kd.M (Kd.int .i64) _ _ _ 6 [.int .i64 6] from rfl) (Reps.one (show Kd.M (Kd.int .i64) _ _ _ 7 [.int .i64 7] from rfl) (Reps.one (show Kd.M (Kd.int .i64) _ _ _ 8 [.int .i64 8] from rfl) (Reps.one (show Kd.M (Kd.int .i64) _ _ _ 9 [.int .i64 9] from rfl) (Reps.none _ _))))))))))))))); intro v245 w14 ho15 hb hg_ hnew_; clear hg_ hnew_; (first | rw [← Ny244.out] at ho15 | (simp only [Int.reduceToNat] at ho15; rw [← Ny244.out] at ho15)); have n0_ := Aside0.mk (Kd.R_below (by (with_reducible repeat (first | apply Kd.R_alloc | apply Kd.R_drewN | apply Kd.R_drew)); exact HO_9.out) hb); have n1_ := Aside0.mk (Kd.R_elder' (by (with_reducible repeat (first | apply Kd.R_alloc | apply Kd.R_drewN | apply Kd.R_drew)); exact HO_10.out) (Kd.R_base ho15) hb); have n2_ := Aside0.mk (Kd.R_lower (Kd.R_new' ho15 (Kd.R_lt (by (with_reducible repeat (first | apply Kd.R_alloc | apply Kd.R_drewN | apply Kd.R_drew)); exact HO_10.out))) (keep_size (w := w) (g := g) (row := none) (by repeat (first | (with_reducible first | exact HK.out | apply KeepBut.set_ | apply keep_drewN | apply keep_drew | apply keep_alloc) | exact HK.out)))); have n3_ := Aside0.mk (IsS119.below (by repeat (first | (with_reducible first | exact HI0.out | apply IsS119.alloc | apply IsS119.drewN | apply IsS119.drew | apply IsS119.set_1) | exact HI0.out)) hb); have n4_ := Aside0.mk (KeepBut.trans (by repeat (first | (with_reducible first | exact HK.out | apply KeepBut.set_ | apply keep_drewN | apply keep_drew | apply keep_alloc) | exact HK.out)) (KeepBut.of_below hb g none) (.inl rfl)); have n5_ := Aside0.mk (below_step (by repeat (first | (with_reducible first | exact HB.out | apply bwA | apply bwN | apply bwD | refine below_set ?_ (IsS119.ge HI0.out)) | exact HB.out)) hb); clear HO_9; clear HO_10; clear HI0; clear HK; clear HB; have HO_9 := n0_; have HO_10 := n1_; have HO246 := n2_; have HI0 := n3_; have HK := n4_; have HB := n5_; clear n0_ n1_ n2_ n3_ n4_ n5_; clear hb ho15; obtain ⟨Ao16, co16, eo16⟩ := Kd.R_slice HO246.out; subst eo16) | ((with_reducible refine gate_callee (f := 60) rfl ?_); refine goesL_ (some 30) rfl rfl Try.func60 (by kernel_rfl) rfl #[.pointer (some ⟨g, 0, none⟩), .slice Ao16 y244.length co16] rfl (by (try simp only [List.map_toArray, List.map_cons, List.map_nil]); first | done | rfl | (simp only [List.length_drop, List.length_take]; rfl)) ?_; (with_reducible refine (spec_l40Rd_num.calls k1 g s0_0 x1001_1 _ _ y244 t247 t248 w0 _ ?side1 ?side2 ?side3 ?side4 ?side5 A12.out).mono ?_); (case side1 => repeat (first | (with_reducible first | exact HI0.out | apply IsS119.alloc | apply IsS119.drewN | apply IsS119.drew | apply IsS119.set_1) | exact HI0.out)); (case side2 => repeat (first | (with_reducible first | exact HB.out | apply bwA | apply bwN | apply bwD | refine below_set ?_ (IsS119.ge HI0.out)) | exact HB.out)); (case side3 => repeat (first | exact (Kd.R_reads' HO246.out).2.2 | (with_reducible refine Kd.C_alloc ?_ _) | (with_reducible refine Kd.C_drewN ?_ _) | (with_reducible refine Kd.C_drew ?_))); (case side4 => exact (Kd.R_reads' HO246.out).2.1); (case side5 => exact far_slice (IsS119.own_ne HI0.out HO246.out (by decide))); rintro e w17 ⟨rfl, hi, hb, hk⟩; refine ⟨_, rfl, ?_⟩; have n0_ := Aside0.mk (Kd.R_mono (Kd.R_keep (IsS119.apart (show IsS119 w0 _ g s0_0 x1001_1 from by repeat (first | (with_reducible first | exact HI0.out | apply IsS119.alloc | apply IsS119.drewN | apply IsS119.drew | apply IsS119.set_1) | exact HI0.out)) (by (with_reducible repeat (first | apply Kd.R_alloc | apply Kd.R_drewN | apply Kd.R_drew)); exact HO_9.out) (by decide)) hk (fun _ h => h.2)) (fun _ h => h.1)); have n1_ := Aside0.mk (Kd.R_mono (Kd.R_keep (IsS119.apart (show IsS119 w0 _ g s0_0 x1001_1 from by repeat (first | (with_reducible first | exact HI0.out | apply IsS119.alloc | apply IsS119.drewN | apply IsS119.drew | apply IsS119.set_1) | exact HI0.out)) (by (with_reducible repeat (first | apply Kd.R_alloc | apply Kd.R_drewN | apply Kd.R_drew)); exact HO_10.out) (by decide)) hk (fun _ h => h.2)) (fun _ h => h.1)); have n2_ := Aside0.mk (Kd.R_mono (Kd.R_keep (IsS119.apart (show IsS119 w0 _ g s0_0 x1001_1 from by repeat (first | (with_reducible first | exact HI0.out | apply IsS119.alloc | apply IsS119.drewN | apply IsS119.drew | apply IsS119.set_1) | exact HI0.out)) (by (with_reducible repeat (first | apply Kd.R_alloc | apply Kd.R_drewN | apply Kd.R_drew)); exact HO246.out) (by decide)) hk (fun _ h => h.2)) (fun _ h => h.1)); have n3_ := Aside0.mk (KeepBut.trans (by repeat (first | (with_reducible first | exact HK.out | apply KeepBut.set_ | apply keep_drewN | apply keep_drew | apply keep_alloc) | exact HK.out)) hk (.inl rfl)); have n4_ := Aside0.mk (hb); have n5_ := Aside0.mk (hi); clear HO_9; clear HO_10; clear HO246; clear HK; clear HB; clear HI0; have HO_9 := n0_; have HO_10 := n1_; have HO246 := n2_; have HK := n3_; have HB := n4_; have HI0 := n5_; clear n0_ n1_ n2_ n3_ n4_ n5_; (try clear hb); (try clear hb2); (try clear hk); (try clear hi)) | ((with_reducible refine gate_dst (N := 13) rfl ?_); refine box_event ?hg (N := 13) ?hd (cs := #[.int .i64 0, .int .i64 0, .int .i64 0, .int .i64 0]) (t := 73) ?hr ?_; (case hd => rfl); (case hg => rfl); (case hr => first | (go_simp; done) | (go_simp; rfl)); intro gb249 hg w18 hbox hb; have n0_ := Aside0.mk (Kd.R_below (Kd.R_elderB (by (with_reducible repeat (first | apply Kd.R_alloc | apply Kd.R_drewN | apply Kd.R_drew)); exact HO_9.out) gb249 (Nat.le_of_eq hg.symm)) hb); have n1_ := Aside0.mk (Kd.R_below (by (with_reducible repeat (first | apply Kd.R_alloc | apply Kd.R_drewN | apply Kd.R_drew)); exact HO_10.out) hb); have n2_ := Aside0.mk (Kd.R_below (by (with_reducible repeat (first | apply Kd.R_alloc | apply Kd.R_drewN | apply Kd.R_drew)); exact HO246.out) hb); have n3_ := Aside0.mk (IsS119.below (by repeat (first | (with_reducible first | exact HI0.out | apply IsS119.alloc | apply IsS119.drewN | apply IsS119.drew | apply IsS119.set_1) | exact HI0.out)) hb); have n4_ := Aside0.mk (KeepBut.trans (by repeat (first | (with_reducible first | exact HK.out | apply KeepBut.set_ | apply keep_drewN | apply keep_drew | apply keep_alloc) | exact HK.out)) (KeepBut.of_below hb g none) (.inl rfl)); have n5_ := Aside0.mk (below_step (by repeat (first | (with_reducible first | exact HB.out | apply bwA | apply bwN | apply bwD | refine below_set ?_ (IsS119.ge HI0.out)) | exact HB.out)) hb); have n6_ := Aside0.mk (hbox); have n7_ := Aside0.mk ((by rw [hg]; exact (keep_size (w := w) (g := g) (row := none) (by repeat (first | (with_reducible first | exact HK.out | apply KeepBut.set_ | apply keep_drewN | apply keep_drew | apply keep_alloc) | exact HK.out))) : w.heap.size ≤ gb249)); have n8_ := Aside0.mk ((Nat.le_trans HW0.out (by rw [hg]; exact (keep_size (w := w) (g := g) (row := none) (by repeat (first | (with_reducible first | exact HK.out | apply KeepBut.set_ | apply keep_drewN | apply keep_drew | apply keep_alloc) | exact HK.out))) : w.heap.size ≤ gb249) : w0.heap.size ≤ gb249)); have n9_ := Aside0.mk ((by rw [hg]; exact Nat.ne_of_lt (IsS119.lt (show IsS119 w0 _ g s0_0 t248 from by repeat (first | (with_reducible first | exact HI0.out | apply IsS119.alloc | apply IsS119.drewN | apply IsS119.drew | apply IsS119.set_1) | exact HI0.out))) : g ≠ gb249)); have n10_ := Aside0.mk ((by rw [hg]; exact Nat.ne_of_gt (IsS119.lt (show IsS119 w0 _ g s0_0 t248 from by repeat (first | (with_reducible first | exact HI0.out | apply IsS119.alloc | apply IsS119.drewN | apply IsS119.drew | apply IsS119.set_1) | exact HI0.out))) : gb249 ≠ g)); clear HO_9; clear HO_10; clear HO246; clear HI0; clear HK; clear HB; have HO_9 := n0_; have HO_10 := n1_; have HO246 := n2_; have HI0 := n3_; have HK := n4_; have HB := n5_; have BK249 := n6_; have GW249 := n7_; have GE249 := n8_; have NB0_249 := n9_; have NB249_0 := n10_; clear n0_ n1_ n2_ n3_ n4_ n5_ n6_ n7_ n8_ n9_ n10_; clear hb hbox hg; have hnb19 := NB249_0.out; have hnc19 := NB0_249.out; have hcz20_0 : w18.cell? ⟨gb249, 0, none⟩ = some (.int .i64 0) := (blk_cell BK249.out 0).trans rfl; have hcz20_1 : w18.cell? ⟨gb249, 1, none⟩ = some (.int .i64 0) := (blk_cell BK249.out 1).trans rfl; have hcz20_2 : w18.cell? ⟨gb249, 2, none⟩ = some (.int .i64 0) := (blk_cell BK249.out 2).trans rfl; have hcz20_3 : w18.cell? ⟨gb249, 3, none⟩ = some (.int .i64 0) := (blk_cell BK249.out 3).trans rfl; have hfz20_0 := blk_frozen BK249.out 0; have hfz20_1 := blk_frozen BK249.out 1; have hfz20_2 := blk_frozen BK249.out 2; have hfz20_3 := blk_frozen BK249.out 3))
    (try simp only [Act.put, List.setIfInBounds_toArray, List.set_cons_zero, List.set_cons_succ])
    go_cut [39] (fun v39 wc => ∃ (kq : Nat) (x39_12 : Bool), v39 = .bool x39_12 ∧ Aside0 (spec_l1Terms.j1 kq a1 a2 x9_1 x10_1 x11_1 t247 x39_12 s0_0 t248 t247 0 0 0 = some (r1, r2)) ∧ Aside0 (kq ≤ k1) ∧ Aside0 (Kd.R k73 73 wc w.heap.size (fun k_ => k_ ≠ gb249) u9 x9_1) ∧ Aside0 (Kd.R (Kd.int .i64) 3 wc w.heap.size (fun _ => True) u10 x10_1) ∧ Aside0 (wc.heap[gb249]? = some (.cells #[.int .i64 t247, .int .i64 0, .int .i64 0, .int .i64 0] 73 (0, 0))) ∧ Aside0 (IsS119 w0 wc g s0_0 t248) ∧ Aside0 (KeepBut w wc g none) ∧ Aside0 (Below w0.heap.size w0 wc))
    case first =>
     have H := HC13.out
     clear HC13
     by_cases c21 : (x9_1.length : Int) = 0
     ·rw [if_pos c21] at H
      have c21b0 : ((x9_1.length : Int) == 0) = true := beq_iff_eq.mpr c21
      have c21b1 : ((x9_1.length : Int) != 0) = false := bne_eq_false_iff_eq.mpr c21
      clear c21
      (first | rw [c21b0] | (simp only [i64_w, i32_w]; rw [c21b0]) | skip)
      have H' := Aside0.mk H
      clear H
      obtain ⟨Ao22, co22, eo22⟩ := Kd.R_slice HO_9.out
      subst eo22
      go_wp2
      go_meet
      case rel => exact ⟨_, (true), (by first | rfl | (simp; done) | (simp [*]; done)), H', ⟨by have := HK1.out; first | omega | exact Nat.le_refl _⟩, ⟨by (with_reducible repeat (first | apply Kd.R_alloc | apply Kd.R_drewN | apply Kd.R_drew)); exact Kd.R_mono (Kd.R_far (p := ⟨gb249, 3, none⟩) (Kd.R_far (p := ⟨gb249, 2, none⟩) (Kd.R_far (p := ⟨gb249, 1, none⟩) (Kd.R_far (p := ⟨gb249, 0, none⟩) (Kd.R_mono HO_9.out (fun k_ hk => (⟨hk, hk.2⟩ : _ ∧ k_ ≠ gb249))) (fun _ hk => hk.2) (.int .i64 t247)) (fun _ hk => hk.2) (.int .i64 0)) (fun _ hk => hk.2) (.int .i64 0)) (fun _ hk => hk.2) (.int .i64 0)) (fun _ hk => hk.1.2)⟩, ⟨by (with_reducible repeat (first | apply Kd.R_alloc | apply Kd.R_drewN | apply Kd.R_drew)); exact Kd.R_mono (Kd.R_far (p := ⟨gb249, 3, none⟩) (Kd.R_far (p := ⟨gb249, 2, none⟩) (Kd.R_far (p := ⟨gb249, 1, none⟩) (Kd.R_far (p := ⟨gb249, 0, none⟩) (Kd.R_types HO_10.out BK249.out (by decide)) (fun _ hk => hk.2) (.int .i64 t247)) (fun _ hk => hk.2) (.int .i64 0)) (fun _ hk => hk.2) (.int .i64 0)) (fun _ hk => hk.2) (.int .i64 0)) (fun _ hk => trivial)⟩, ⟨by (with_reducible repeat (first | refine blk_drewN ?_ _ | refine blk_drew ?_ | refine blk_alloc ?_ _)); refine blk_put (cs := #[.int .i64 t247, .int .i64 0, .int .i64 0, .int .i64 0]) ?_ 3 _ rfl; (with_reducible repeat (first | refine blk_drewN ?_ _ | refine blk_drew ?_ | refine blk_alloc ?_ _)); refine blk_put (cs := #[.int .i64 t247, .int .i64 0, .int .i64 0, .int .i64 0]) ?_ 2 _ rfl; (with_reducible repeat (first | refine blk_drewN ?_ _ | refine blk_drew ?_ | refine blk_alloc ?_ _)); refine blk_put (cs := #[.int .i64 t247, .int .i64 0, .int .i64 0, .int .i64 0]) ?_ 1 _ rfl; (with_reducible repeat (first | refine blk_drewN ?_ _ | refine blk_drew ?_ | refine blk_alloc ?_ _)); refine blk_put (cs := #[.int .i64 0, .int .i64 0, .int .i64 0, .int .i64 0]) ?_ 0 _ rfl; (with_reducible repeat (first | refine blk_drewN ?_ _ | refine blk_drew ?_ | refine blk_alloc ?_ _)); exact BK249.out⟩, ⟨by repeat (first | (with_reducible first | exact HI0.out | apply IsS119.alloc | apply IsS119.drewN | apply IsS119.drew | apply IsS119.set_1 | refine IsS119.far ?_ NB0_249.out _) | exact HI0.out)⟩, ⟨by repeat (first | (with_reducible first | exact HK.out | apply KeepBut.set_ | apply keep_drewN | apply keep_drew | apply keep_alloc | refine keep_far ?_ GW249.out _) | exact HK.out)⟩, ⟨by repeat (first | (with_reducible first | exact HB.out | apply bwA | apply bwN | apply bwD | refine below_set ?_ (IsS119.ge HI0.out) | refine below_set ?_ GE249.out) | exact HB.out)⟩⟩
     ·rw [if_neg c21] at H
      have c21b0 : ((x9_1.length : Int) == 0) = false := beq_eq_false_iff_ne.mpr c21
      have c21b1 : ((x9_1.length : Int) != 0) = true := bne_iff_ne.mpr c21
      have c21b2 : ¬ (x9_1 = []) := fun h_ => c21 (by rw [h_]; rfl)
      (first | rw [c21b0] | (simp only [i64_w, i32_w]; rw [c21b0]) | skip)
      have H' := Aside0.mk H
      clear H
      obtain ⟨Ao23, co23, eo23⟩ := Kd.R_slice HO_9.out
      subst eo23
      go_wp2
      go_meet
      case rel => exact ⟨_, (decide (t247 < 2)), (by first | rfl | (simp; done) | (simp [*]; done)), H', ⟨by have := HK1.out; first | omega | exact Nat.le_refl _⟩, ⟨by (with_reducible repeat (first | apply Kd.R_alloc | apply Kd.R_drewN | apply Kd.R_drew)); exact Kd.R_mono (Kd.R_far (p := ⟨gb249, 3, none⟩) (Kd.R_far (p := ⟨gb249, 2, none⟩) (Kd.R_far (p := ⟨gb249, 1, none⟩) (Kd.R_far (p := ⟨gb249, 0, none⟩) (Kd.R_mono HO_9.out (fun k_ hk => (⟨hk, hk.2⟩ : _ ∧ k_ ≠ gb249))) (fun _ hk => hk.2) (.int .i64 t247)) (fun _ hk => hk.2) (.int .i64 0)) (fun _ hk => hk.2) (.int .i64 0)) (fun _ hk => hk.2) (.int .i64 0)) (fun _ hk => hk.1.2)⟩, ⟨by (with_reducible repeat (first | apply Kd.R_alloc | apply Kd.R_drewN | apply Kd.R_drew)); exact Kd.R_mono (Kd.R_far (p := ⟨gb249, 3, none⟩) (Kd.R_far (p := ⟨gb249, 2, none⟩) (Kd.R_far (p := ⟨gb249, 1, none⟩) (Kd.R_far (p := ⟨gb249, 0, none⟩) (Kd.R_types HO_10.out BK249.out (by decide)) (fun _ hk => hk.2) (.int .i64 t247)) (fun _ hk => hk.2) (.int .i64 0)) (fun _ hk => hk.2) (.int .i64 0)) (fun _ hk => hk.2) (.int .i64 0)) (fun _ hk => trivial)⟩, ⟨by (with_reducible repeat (first | refine blk_drewN ?_ _ | refine blk_drew ?_ | refine blk_alloc ?_ _)); refine blk_put (cs := #[.int .i64 t247, .int .i64 0, .int .i64 0, .int .i64 0]) ?_ 3 _ rfl; (with_reducible repeat (first | refine blk_drewN ?_ _ | refine blk_drew ?_ | refine blk_alloc ?_ _)); refine blk_put (cs := #[.int .i64 t247, .int .i64 0, .int .i64 0, .int .i64 0]) ?_ 2 _ rfl; (with_reducible repeat (first | refine blk_drewN ?_ _ | refine blk_drew ?_ | refine blk_alloc ?_ _)); refine blk_put (cs := #[.int .i64 t247, .int .i64 0, .int .i64 0, .int .i64 0]) ?_ 1 _ rfl; (with_reducible repeat (first | refine blk_drewN ?_ _ | refine blk_drew ?_ | refine blk_alloc ?_ _)); refine blk_put (cs := #[.int .i64 0, .int .i64 0, .int .i64 0, .int .i64 0]) ?_ 0 _ rfl; (with_reducible repeat (first | refine blk_drewN ?_ _ | refine blk_drew ?_ | refine blk_alloc ?_ _)); exact BK249.out⟩, ⟨by repeat (first | (with_reducible first | exact HI0.out | apply IsS119.alloc | apply IsS119.drewN | apply IsS119.drew | apply IsS119.set_1 | refine IsS119.far ?_ NB0_249.out _) | exact HI0.out)⟩, ⟨by repeat (first | (with_reducible first | exact HK.out | apply KeepBut.set_ | apply keep_drewN | apply keep_drew | apply keep_alloc | refine keep_far ?_ GW249.out _) | exact HK.out)⟩, ⟨by repeat (first | (with_reducible first | exact HB.out | apply bwA | apply bwN | apply bwD | refine below_set ?_ (IsS119.ge HI0.out) | refine below_set ?_ GE249.out) | exact HB.out)⟩⟩
    case rest =>
     clear HC13
     try clear c1
     try clear c2
     try clear p2
     try clear c6
     try clear p6
     try clear c11
     try clear c11b0
     try clear c19
     try clear c21
     try clear c21b0
     try clear c21b1
     try clear c21b2
     try clear hcz20_0
     try clear hcz20_1
     try clear hcz20_2
     try clear hcz20_3
     try clear hfz20_0
     try clear hfz20_1
     try clear hfz20_2
     try clear hfz20_3
     try clear p2
     try clear p6
     obtain ⟨kq, x39_12, rfl, HA, HJ12, HO_9, HO_10, BK249, HI0, HK, HB⟩ := hcut
     cases kq with
     | zero => exact absurd HA.out (by simp [spec_l1Terms.j1])
     | succ kj12 =>
      have H := HA.out
      clear HA
      simp only [spec_l1Terms.j1] at H
      by_cases c24 : x39_12 = true
      ·subst c24
       have H1 : ((spec_l1Number.f kj12 s0_0 t248).bind fun bt250 => (if a1 > 0 then (spec_l1Terms.j2 kj12 a1 a2 x9_1 x10_1 x11_1 (t247 != 0) s0_0 bt250.2 0 bt250.1 0 0) else (spec_l1Terms.j2 kj12 a1 a2 x9_1 x10_1 x11_1 false s0_0 bt250.2 0 bt250.1 0 0))) = some (r1, r2) := by rw [if_pos rfl] at H; exact H
       clear H
       have H := H1
       clear H1
       replace H := Option.bind_eq_some_iff.mp H
       obtain ⟨⟨t250, t251⟩, A250, H⟩ := H
       replace H : (if a1 > 0 then (spec_l1Terms.j2 kj12 a1 a2 x9_1 x10_1 x11_1 (t247 != 0) s0_0 t251 0 t250 0 0) else (spec_l1Terms.j2 kj12 a1 a2 x9_1 x10_1 x11_1 false s0_0 t251 0 t250 0 0)) = some (r1, r2) := H
       have A25 := Aside0.mk A250
       clear A250
       have HC26 := Aside0.mk H
       clear H
       go_upto_region 10 with (first | ((with_reducible refine gate_callee (f := 107) rfl ?_); refine goesL_ (some 41) rfl rfl Try.func107 (by kernel_rfl) rfl #[.pointer (some ⟨g, 0, none⟩)] rfl (by (try simp only [List.map_toArray, List.map_cons, List.map_nil]); first | done | rfl | (simp only [List.length_drop, List.length_take]; rfl)) ?_; (with_reducible refine (spec_l1Number.calls kj12 g s0_0 t248 t250 t251 w0 _ ?side1 ?side2 A25.out).mono ?_); (case side1 => repeat (first | (with_reducible first | exact HI0.out | apply IsS119.alloc | apply IsS119.drewN | apply IsS119.drew | apply IsS119.set_1 | refine IsS119.far ?_ NB0_249.out _) | exact HI0.out)); (case side2 => repeat (first | (with_reducible first | exact HB.out | apply bwA | apply bwN | apply bwD | refine below_set ?_ (IsS119.ge HI0.out) | refine below_set ?_ GE249.out) | exact HB.out)); rintro e w27 ⟨rfl, hi, hb, hk⟩; refine ⟨_, rfl, ?_⟩; have n0_ := Aside0.mk (Kd.R_mono (Kd.R_keep (IsS119.apart (show IsS119 w0 _ g s0_0 t248 from by repeat (first | (with_reducible first | exact HI0.out | apply IsS119.alloc | apply IsS119.drewN | apply IsS119.drew | apply IsS119.set_1 | refine IsS119.far ?_ NB0_249.out _) | exact HI0.out)) (by (with_reducible repeat (first | apply Kd.R_alloc | apply Kd.R_drewN | apply Kd.R_drew)); exact HO_9.out) (by decide)) hk (fun _ h => h.2)) (fun _ h => h.1)); have n1_ := Aside0.mk (Kd.R_mono (Kd.R_keep (IsS119.apart (show IsS119 w0 _ g s0_0 t248 from by repeat (first | (with_reducible first | exact HI0.out | apply IsS119.alloc | apply IsS119.drewN | apply IsS119.drew | apply IsS119.set_1 | refine IsS119.far ?_ NB0_249.out _) | exact HI0.out)) (by (with_reducible repeat (first | apply Kd.R_alloc | apply Kd.R_drewN | apply Kd.R_drew)); exact HO_10.out) (by decide)) hk (fun _ h => h.2)) (fun _ h => h.1)); have n2_ := Aside0.mk (KeepBut.blk hk (g' := gb249) (o := .cells #[.int .i64 t247, .int .i64 0, .int .i64 0, .int .i64 0] 73 (0, 0)) (by (with_reducible repeat (first | refine blk_drewN ?_ _ | refine blk_drew ?_ | refine blk_alloc ?_ _)); exact BK249.out) NB249_0.out (by simp)); have n3_ := Aside0.mk (KeepBut.trans (by repeat (first | (with_reducible first | exact HK.out | apply KeepBut.set_ | apply keep_drewN | apply keep_drew | apply keep_alloc | refine keep_far ?_ GW249.out _) | exact HK.out)) hk (.inl rfl)); have n4_ := Aside0.mk (hb); have n5_ := Aside0.mk (hi); clear HO_9; clear HO_10; clear BK249; clear HK; clear HB; clear HI0; have HO_9 := n0_; have HO_10 := n1_; have BK249 := n2_; have HK := n3_; have HB := n4_; have HI0 := n5_; clear n0_ n1_ n2_ n3_ n4_ n5_; (try clear hb); (try clear hb2); (try clear hk); (try clear hi); have hnb28 := NB249_0.out; have hnc28 := NB0_249.out; have hcz29_0 : w27.cell? ⟨gb249, 0, none⟩ = some (.int .i64 t247) := (blk_cell BK249.out 0).trans rfl; have hcz29_1 : w27.cell? ⟨gb249, 1, none⟩ = some (.int .i64 0) := (blk_cell BK249.out 1).trans rfl; have hcz29_2 : w27.cell? ⟨gb249, 2, none⟩ = some (.int .i64 0) := (blk_cell BK249.out 2).trans rfl; have hcz29_3 : w27.cell? ⟨gb249, 3, none⟩ = some (.int .i64 0) := (blk_cell BK249.out 3).trans rfl; have hfz29_0 := blk_frozen BK249.out 0; have hfz29_1 := blk_frozen BK249.out 1; have hfz29_2 := blk_frozen BK249.out 2; have hfz29_3 := blk_frozen BK249.out 3))
       (try simp only [Act.put, List.setIfInBounds_toArray, List.set_cons_zero, List.set_cons_succ])
       go_cut [48] (fun v48 wc => ∃ (kq : Nat) (x48_25 : Bool), v48 = .bool x48_25 ∧ Aside0 (spec_l1Terms.j2 kq a1 a2 x9_1 x10_1 x11_1 x48_25 s0_0 t251 0 t250 0 0 = some (r1, r2)) ∧ Aside0 (kq ≤ kj12) ∧ Aside0 (Kd.R k73 73 wc w.heap.size (fun k_ => k_ ≠ gb249) u9 x9_1) ∧ Aside0 (Kd.R (Kd.int .i64) 3 wc w.heap.size (fun _ => True) u10 x10_1) ∧ Aside0 (wc.heap[gb249]? = some (.cells #[.int .i64 0, .int .i64 t250, .int .i64 0, .int .i64 0] 73 (0, 0))) ∧ Aside0 (IsS119 w0 wc g s0_0 t251) ∧ Aside0 (KeepBut w wc g none) ∧ Aside0 (Below w0.heap.size w0 wc))
       case first =>
        have H := HC26.out
        clear HC26
        by_cases c30 : a1 > 0
        ·rw [if_pos c30] at H
         have c30b0 : decide (0 < a1) = true := decide_eq_true c30
         clear c30
         (first | rw [c30b0] | (simp only [i64_w, i32_w]; rw [c30b0]) | skip)
         have H' := Aside0.mk H
         clear H
         go_wp2
         go_meet
         case rel => exact ⟨_, ((t247 != 0)), (by first | rfl | (simp; done) | (simp [*]; done)), H', ⟨by have := HK1.out; have := HJ12.out; first | omega | exact Nat.le_refl _⟩, ⟨by (with_reducible repeat (first | apply Kd.R_alloc | apply Kd.R_drewN | apply Kd.R_drew)); exact Kd.R_mono (Kd.R_far (p := ⟨gb249, 3, none⟩) (Kd.R_far (p := ⟨gb249, 2, none⟩) (Kd.R_far (p := ⟨gb249, 1, none⟩) (Kd.R_far (p := ⟨gb249, 0, none⟩) (Kd.R_mono HO_9.out (fun k_ hk => (⟨hk, hk⟩ : _ ∧ k_ ≠ gb249))) (fun _ hk => hk.2) (.int .i64 0)) (fun _ hk => hk.2) (.int .i64 t250)) (fun _ hk => hk.2) (.int .i64 0)) (fun _ hk => hk.2) (.int .i64 0)) (fun _ hk => hk.1)⟩, ⟨by (with_reducible repeat (first | apply Kd.R_alloc | apply Kd.R_drewN | apply Kd.R_drew)); exact Kd.R_mono (Kd.R_far (p := ⟨gb249, 3, none⟩) (Kd.R_far (p := ⟨gb249, 2, none⟩) (Kd.R_far (p := ⟨gb249, 1, none⟩) (Kd.R_far (p := ⟨gb249, 0, none⟩) (Kd.R_types HO_10.out BK249.out (by decide)) (fun _ hk => hk.2) (.int .i64 0)) (fun _ hk => hk.2) (.int .i64 t250)) (fun _ hk => hk.2) (.int .i64 0)) (fun _ hk => hk.2) (.int .i64 0)) (fun _ hk => trivial)⟩, ⟨by (with_reducible repeat (first | refine blk_drewN ?_ _ | refine blk_drew ?_ | refine blk_alloc ?_ _)); refine blk_put (cs := #[.int .i64 0, .int .i64 t250, .int .i64 0, .int .i64 0]) ?_ 3 _ rfl; (with_reducible repeat (first | refine blk_drewN ?_ _ | refine blk_drew ?_ | refine blk_alloc ?_ _)); refine blk_put (cs := #[.int .i64 0, .int .i64 t250, .int .i64 0, .int .i64 0]) ?_ 2 _ rfl; (with_reducible repeat (first | refine blk_drewN ?_ _ | refine blk_drew ?_ | refine blk_alloc ?_ _)); refine blk_put (cs := #[.int .i64 0, .int .i64 0, .int .i64 0, .int .i64 0]) ?_ 1 _ rfl; (with_reducible repeat (first | refine blk_drewN ?_ _ | refine blk_drew ?_ | refine blk_alloc ?_ _)); refine blk_put (cs := #[.int .i64 t247, .int .i64 0, .int .i64 0, .int .i64 0]) ?_ 0 _ rfl; (with_reducible repeat (first | refine blk_drewN ?_ _ | refine blk_drew ?_ | refine blk_alloc ?_ _)); exact BK249.out⟩, ⟨by repeat (first | (with_reducible first | exact HI0.out | apply IsS119.alloc | apply IsS119.drewN | apply IsS119.drew | apply IsS119.set_1 | refine IsS119.far ?_ NB0_249.out _) | exact HI0.out)⟩, ⟨by repeat (first | (with_reducible first | exact HK.out | apply KeepBut.set_ | apply keep_drewN | apply keep_drew | apply keep_alloc | refine keep_far ?_ GW249.out _) | exact HK.out)⟩, ⟨by repeat (first | (with_reducible first | exact HB.out | apply bwA | apply bwN | apply bwD | refine below_set ?_ (IsS119.ge HI0.out) | refine below_set ?_ GE249.out) | exact HB.out)⟩⟩
        ·rw [if_neg c30] at H
         have c30b0 : decide (0 < a1) = false := decide_eq_false c30
         clear c30
         (first | rw [c30b0] | (simp only [i64_w, i32_w]; rw [c30b0]) | skip)
         have H' := Aside0.mk H
         clear H
         go_wp2
         go_meet
         case rel => exact ⟨_, (false), (by first | rfl | (simp; done) | (simp [*]; done)), H', ⟨by have := HK1.out; have := HJ12.out; first | omega | exact Nat.le_refl _⟩, ⟨by (with_reducible repeat (first | apply Kd.R_alloc | apply Kd.R_drewN | apply Kd.R_drew)); exact Kd.R_mono (Kd.R_far (p := ⟨gb249, 3, none⟩) (Kd.R_far (p := ⟨gb249, 2, none⟩) (Kd.R_far (p := ⟨gb249, 1, none⟩) (Kd.R_far (p := ⟨gb249, 0, none⟩) (Kd.R_mono HO_9.out (fun k_ hk => (⟨hk, hk⟩ : _ ∧ k_ ≠ gb249))) (fun _ hk => hk.2) (.int .i64 0)) (fun _ hk => hk.2) (.int .i64 t250)) (fun _ hk => hk.2) (.int .i64 0)) (fun _ hk => hk.2) (.int .i64 0)) (fun _ hk => hk.1)⟩, ⟨by (with_reducible repeat (first | apply Kd.R_alloc | apply Kd.R_drewN | apply Kd.R_drew)); exact Kd.R_mono (Kd.R_far (p := ⟨gb249, 3, none⟩) (Kd.R_far (p := ⟨gb249, 2, none⟩) (Kd.R_far (p := ⟨gb249, 1, none⟩) (Kd.R_far (p := ⟨gb249, 0, none⟩) (Kd.R_types HO_10.out BK249.out (by decide)) (fun _ hk => hk.2) (.int .i64 0)) (fun _ hk => hk.2) (.int .i64 t250)) (fun _ hk => hk.2) (.int .i64 0)) (fun _ hk => hk.2) (.int .i64 0)) (fun _ hk => trivial)⟩, ⟨by (with_reducible repeat (first | refine blk_drewN ?_ _ | refine blk_drew ?_ | refine blk_alloc ?_ _)); refine blk_put (cs := #[.int .i64 0, .int .i64 t250, .int .i64 0, .int .i64 0]) ?_ 3 _ rfl; (with_reducible repeat (first | refine blk_drewN ?_ _ | refine blk_drew ?_ | refine blk_alloc ?_ _)); refine blk_put (cs := #[.int .i64 0, .int .i64 t250, .int .i64 0, .int .i64 0]) ?_ 2 _ rfl; (with_reducible repeat (first | refine blk_drewN ?_ _ | refine blk_drew ?_ | refine blk_alloc ?_ _)); refine blk_put (cs := #[.int .i64 0, .int .i64 0, .int .i64 0, .int .i64 0]) ?_ 1 _ rfl; (with_reducible repeat (first | refine blk_drewN ?_ _ | refine blk_drew ?_ | refine blk_alloc ?_ _)); refine blk_put (cs := #[.int .i64 t247, .int .i64 0, .int .i64 0, .int .i64 0]) ?_ 0 _ rfl; (with_reducible repeat (first | refine blk_drewN ?_ _ | refine blk_drew ?_ | refine blk_alloc ?_ _)); exact BK249.out⟩, ⟨by repeat (first | (with_reducible first | exact HI0.out | apply IsS119.alloc | apply IsS119.drewN | apply IsS119.drew | apply IsS119.set_1 | refine IsS119.far ?_ NB0_249.out _) | exact HI0.out)⟩, ⟨by repeat (first | (with_reducible first | exact HK.out | apply KeepBut.set_ | apply keep_drewN | apply keep_drew | apply keep_alloc | refine keep_far ?_ GW249.out _) | exact HK.out)⟩, ⟨by repeat (first | (with_reducible first | exact HB.out | apply bwA | apply bwN | apply bwD | refine below_set ?_ (IsS119.ge HI0.out) | refine below_set ?_ GE249.out) | exact HB.out)⟩⟩
       case rest =>
        clear HC26
        try clear c1
        try clear c2
        try clear p2
        try clear c3
        try clear c6
        try clear p6
        try clear c10
        try clear c11
        try clear c11b0
        try clear c19
        try clear c21
        try clear c21b0
        try clear c21b1
        try clear c21b2
        try clear c24
        try clear c28
        try clear c30
        try clear c30b0
        try clear hcz20_0
        try clear hcz20_1
        try clear hcz20_2
        try clear hcz20_3
        try clear hcz29_0
        try clear hcz29_1
        try clear hcz29_2
        try clear hcz29_3
        try clear hfz20_0
        try clear hfz20_1
        try clear hfz20_2
        try clear hfz20_3
        try clear hfz29_0
        try clear hfz29_1
        try clear hfz29_2
        try clear hfz29_3
        try clear p2
        try clear p6
        obtain ⟨kq, x48_25, rfl, HA, HJ25, HO_9, HO_10, BK249, HI0, HK, HB⟩ := hcut
        cases kq with
        | zero => exact absurd HA.out (by simp [spec_l1Terms.j2])
        | succ kj25 =>
         have H := HA.out
         clear HA
         simp only [spec_l1Terms.j2] at H
         by_cases c31 : x48_25 = true
         ·subst c31
          have H1 : ((spec_l40Rd_pick.f kj25 s0_0 t251 a1).bind fun bt252 => ((spec_l1Kind.f kj25 1 bt252.1 0 0 x10_1 a1).bind fun t254 => (if t254 = 0 then (spec_l1Terms.l0 kj25 a1 a2 x9_1 x10_1 (wrap64 (x11_1 - 1)) s0_0 bt252.2) else (if x9_1.length < 4398046511104 then (if x10_1.length < 17592186044416 then (spec_l1Terms.l0 kj25 a1 a2 (x9_1 ++ [(⟨1, bt252.1, 0, 0⟩ : S73)]) (x10_1 ++ [t254]) (wrap64 (x11_1 - 1)) s0_0 bt252.2) else (none)) else (none))))) = some (r1, r2) := by rw [if_pos rfl] at H; exact H
          clear H
          have H := H1
          clear H1
          replace H := Option.bind_eq_some_iff.mp H
          obtain ⟨⟨t252, t253⟩, A320, H⟩ := H
          replace H : ((spec_l1Kind.f kj25 1 t252 0 0 x10_1 a1).bind fun t254 => (if t254 = 0 then (spec_l1Terms.l0 kj25 a1 a2 x9_1 x10_1 (wrap64 (x11_1 - 1)) s0_0 t253) else (if x9_1.length < 4398046511104 then (if x10_1.length < 17592186044416 then (spec_l1Terms.l0 kj25 a1 a2 (x9_1 ++ [(⟨1, t252, 0, 0⟩ : S73)]) (x10_1 ++ [t254]) (wrap64 (x11_1 - 1)) s0_0 t253) else (none)) else (none)))) = some (r1, r2) := H
          have A32 := Aside0.mk A320
          clear A320
          replace H := Option.bind_eq_some_iff.mp H
          obtain ⟨t254, A330, H⟩ := H
          replace H : (if t254 = 0 then (spec_l1Terms.l0 kj25 a1 a2 x9_1 x10_1 (wrap64 (x11_1 - 1)) s0_0 t253) else (if x9_1.length < 4398046511104 then (if x10_1.length < 17592186044416 then (spec_l1Terms.l0 kj25 a1 a2 (x9_1 ++ [(⟨1, t252, 0, 0⟩ : S73)]) (x10_1 ++ [t254]) (wrap64 (x11_1 - 1)) s0_0 t253) else (none)) else (none))) = some (r1, r2) := H
          have A33 := Aside0.mk A330
          clear A330
          by_cases c34 : t254 = 0
          ·rw [if_pos c34] at H
           have c34b0 : (t254 == 0) = true := beq_iff_eq.mpr c34
           have c34b1 : (t254 != 0) = false := bne_eq_false_iff_eq.mpr c34
           clear c34
           have H' := Aside0.mk H
           clear H
           go_wp2_with (first | ((with_reducible refine gate_callee (f := 67) rfl ?_); refine goesL_ (some 51) rfl rfl Try.func67 (by kernel_rfl) rfl #[.pointer (some ⟨g, 0, none⟩), .int .i64 a1] rfl (by (try simp only [List.map_toArray, List.map_cons, List.map_nil]); first | done | rfl | (simp only [List.length_drop, List.length_take]; rfl)) ?_; (with_reducible refine (spec_l40Rd_pick.calls kj25 g s0_0 t251 a1 t252 t253 w0 _ ?side1 ?side2 A32.out).mono ?_); (case side1 => repeat (first | (with_reducible first | exact HI0.out | apply IsS119.alloc | apply IsS119.drewN | apply IsS119.drew | apply IsS119.set_1 | refine IsS119.far ?_ NB0_249.out _) | exact HI0.out)); (case side2 => repeat (first | (with_reducible first | exact HB.out | apply bwA | apply bwN | apply bwD | refine below_set ?_ (IsS119.ge HI0.out) | refine below_set ?_ GE249.out) | exact HB.out)); rintro e w35 ⟨rfl, hi, hb, hk⟩; refine ⟨_, rfl, ?_⟩; have n0_ := Aside0.mk (Kd.R_mono (Kd.R_keep (IsS119.apart (show IsS119 w0 _ g s0_0 t251 from by repeat (first | (with_reducible first | exact HI0.out | apply IsS119.alloc | apply IsS119.drewN | apply IsS119.drew | apply IsS119.set_1 | refine IsS119.far ?_ NB0_249.out _) | exact HI0.out)) (by (with_reducible repeat (first | apply Kd.R_alloc | apply Kd.R_drewN | apply Kd.R_drew)); exact HO_9.out) (by decide)) hk (fun _ h => h.2)) (fun _ h => h.1)); have n1_ := Aside0.mk (Kd.R_mono (Kd.R_keep (IsS119.apart (show IsS119 w0 _ g s0_0 t251 from by repeat (first | (with_reducible first | exact HI0.out | apply IsS119.alloc | apply IsS119.drewN | apply IsS119.drew | apply IsS119.set_1 | refine IsS119.far ?_ NB0_249.out _) | exact HI0.out)) (by (with_reducible repeat (first | apply Kd.R_alloc | apply Kd.R_drewN | apply Kd.R_drew)); exact HO_10.out) (by decide)) hk (fun _ h => h.2)) (fun _ h => h.1)); have n2_ := Aside0.mk (KeepBut.blk hk (g' := gb249) (o := .cells #[.int .i64 0, .int .i64 t250, .int .i64 0, .int .i64 0] 73 (0, 0)) (by (with_reducible repeat (first | refine blk_drewN ?_ _ | refine blk_drew ?_ | refine blk_alloc ?_ _)); exact BK249.out) NB249_0.out (by simp)); have n3_ := Aside0.mk (KeepBut.trans (by repeat (first | (with_reducible first | exact HK.out | apply KeepBut.set_ | apply keep_drewN | apply keep_drew | apply keep_alloc | refine keep_far ?_ GW249.out _) | exact HK.out)) hk (.inl rfl)); have n4_ := Aside0.mk (hb); have n5_ := Aside0.mk (hi); clear HO_9; clear HO_10; clear BK249; clear HK; clear HB; clear HI0; have HO_9 := n0_; have HO_10 := n1_; have BK249 := n2_; have HK := n3_; have HB := n4_; have HI0 := n5_; clear n0_ n1_ n2_ n3_ n4_ n5_; (try clear hb); (try clear hb2); (try clear hk); (try clear hi); have hnb36 := NB249_0.out; have hnc36 := NB0_249.out; have hcz37_0 : w35.cell? ⟨gb249, 0, none⟩ = some (.int .i64 0) := (blk_cell BK249.out 0).trans rfl; have hcz37_1 : w35.cell? ⟨gb249, 1, none⟩ = some (.int .i64 t250) := (blk_cell BK249.out 1).trans rfl; have hcz37_2 : w35.cell? ⟨gb249, 2, none⟩ = some (.int .i64 0) := (blk_cell BK249.out 2).trans rfl; have hcz37_3 : w35.cell? ⟨gb249, 3, none⟩ = some (.int .i64 0) := (blk_cell BK249.out 3).trans rfl; have hfz37_0 := blk_frozen BK249.out 0; have hfz37_1 := blk_frozen BK249.out 1; have hfz37_2 := blk_frozen BK249.out 2; have hfz37_3 := blk_frozen BK249.out 3; obtain ⟨Ao38, co38, eo38⟩ := Kd.R_slice HO_10.out; subst eo38) | ((with_reducible refine gate_callee (f := 106) rfl ?_); refine goesL_ (some 73) rfl rfl Try.func106 (by kernel_rfl) rfl #[.agg #[.int .i64 1, .int .i64 t252, .int .i64 0, .int .i64 0], .slice Ao38 x10_1.length co38, .int .i64 a1] rfl (by (try simp only [List.map_toArray, List.map_cons, List.map_nil]); first | done | rfl | (simp only [List.length_drop, List.length_take]; rfl)) ?_; (with_reducible refine (spec_l1Kind.calls kj25 1 t252 0 0 _ _ x10_1 a1 t254 _ ?side1 ?side2 A33.out).mono ?_); (case side1 => refine (Kd.R_reads' (e := 3) (base := w.heap.size) (ok := fun k_ => True) (n := x10_1.length) (c := co38) ?_).2.2; exact (by (with_reducible repeat (first | apply Kd.R_alloc | apply Kd.R_drewN | apply Kd.R_drew)); exact (Kd.R_mono (Kd.R_far (p := ⟨gb249, 3, none⟩) (Kd.R_far (p := ⟨gb249, 2, none⟩) (Kd.R_far (p := ⟨gb249, 1, none⟩) (Kd.R_far (p := ⟨gb249, 0, none⟩) (Kd.R_types HO_10.out BK249.out (by decide)) (fun _ hk => hk.2) (.int .i64 1)) (fun _ hk => hk.2) (.int .i64 t252)) (fun _ hk => hk.2) (.int .i64 0)) (fun _ hk => hk.2) (.int .i64 0)) (fun _ h_ => h_.1)))); (case side2 => exact (Kd.R_reads' HO_10.out).2.1); rintro e w39 ⟨rfl, hb⟩; refine ⟨_, rfl, ?_⟩; have n0_ := Aside0.mk (Kd.R_below (by (with_reducible repeat (first | apply Kd.R_alloc | apply Kd.R_drewN | apply Kd.R_drew)); exact (Kd.R_mono (Kd.R_far (p := ⟨gb249, 3, none⟩) (Kd.R_far (p := ⟨gb249, 2, none⟩) (Kd.R_far (p := ⟨gb249, 1, none⟩) (Kd.R_far (p := ⟨gb249, 0, none⟩) (Kd.R_mono HO_9.out (fun k_ hk => (⟨hk, hk⟩ : _ ∧ k_ ≠ gb249))) (fun _ hk => hk.2) (.int .i64 1)) (fun _ hk => hk.2) (.int .i64 t252)) (fun _ hk => hk.2) (.int .i64 0)) (fun _ hk => hk.2) (.int .i64 0)) (fun _ h_ => h_.1))) hb); have n1_ := Aside0.mk (Kd.R_below (by (with_reducible repeat (first | apply Kd.R_alloc | apply Kd.R_drewN | apply Kd.R_drew)); exact (Kd.R_mono (Kd.R_far (p := ⟨gb249, 3, none⟩) (Kd.R_far (p := ⟨gb249, 2, none⟩) (Kd.R_far (p := ⟨gb249, 1, none⟩) (Kd.R_far (p := ⟨gb249, 0, none⟩) (Kd.R_types HO_10.out BK249.out (by decide)) (fun _ hk => hk.2) (.int .i64 1)) (fun _ hk => hk.2) (.int .i64 t252)) (fun _ hk => hk.2) (.int .i64 0)) (fun _ hk => hk.2) (.int .i64 0)) (fun _ h_ => h_.1))) hb); have n2_ := Aside0.mk (blk_below (g := gb249) (o := .cells #[.int .i64 1, .int .i64 t252, .int .i64 0, .int .i64 0] 73 (0, 0)) (by (with_reducible repeat (first | refine blk_drewN ?_ _ | refine blk_drew ?_ | refine blk_alloc ?_ _)); refine blk_put (cs := #[.int .i64 1, .int .i64 t252, .int .i64 0, .int .i64 0]) ?_ 3 _ rfl; (with_reducible repeat (first | refine blk_drewN ?_ _ | refine blk_drew ?_ | refine blk_alloc ?_ _)); refine blk_put (cs := #[.int .i64 1, .int .i64 t252, .int .i64 0, .int .i64 0]) ?_ 2 _ rfl; (with_reducible repeat (first | refine blk_drewN ?_ _ | refine blk_drew ?_ | refine blk_alloc ?_ _)); refine blk_put (cs := #[.int .i64 1, .int .i64 t250, .int .i64 0, .int .i64 0]) ?_ 1 _ rfl; (with_reducible repeat (first | refine blk_drewN ?_ _ | refine blk_drew ?_ | refine blk_alloc ?_ _)); refine blk_put (cs := #[.int .i64 0, .int .i64 t250, .int .i64 0, .int .i64 0]) ?_ 0 _ rfl; (with_reducible repeat (first | refine blk_drewN ?_ _ | refine blk_drew ?_ | refine blk_alloc ?_ _)); exact BK249.out) hb); have n3_ := Aside0.mk (IsS119.below (show IsS119 w0 ((((w35.setCell ⟨gb249, 0, none⟩ (.int .i64 1)).setCell ⟨gb249, 1, none⟩ (.int .i64 t252)).setCell ⟨gb249, 2, none⟩ (.int .i64 0)).setCell ⟨gb249, 3, none⟩ (.int .i64 0)) g s0_0 t253 from by repeat (first | (with_reducible first | exact HI0.out | apply IsS119.alloc | apply IsS119.drewN | apply IsS119.drew | apply IsS119.set_1 | refine IsS119.far ?_ NB0_249.out _) | exact HI0.out)) hb); have n4_ := Aside0.mk (KeepBut.trans (by repeat (first | (with_reducible first | exact HK.out | apply KeepBut.set_ | apply keep_drewN | apply keep_drew | apply keep_alloc | refine keep_far ?_ GW249.out _) | exact HK.out)) (KeepBut.of_below hb g none) (.inl rfl)); have n5_ := Aside0.mk (below_step (by repeat (first | (with_reducible first | exact HB.out | apply bwA | apply bwN | apply bwD | refine below_set ?_ (IsS119.ge HI0.out) | refine below_set ?_ GE249.out) | exact HB.out)) hb); clear HO_9; clear HO_10; clear BK249; clear HI0; clear HK; clear HB; have HO_9 := n0_; have HO_10 := n1_; have BK249 := n2_; have HI0 := n3_; have HK := n4_; have HB := n5_; clear n0_ n1_ n2_ n3_ n4_ n5_; (try clear hb); (try clear hb2); (try clear hk); (try clear hi)))
           go_roundg kj25
           case measure => have := HK1.out; have := HJ12.out; have := HJ25.out; omega
           case rel => exact ⟨(x9_1), (x10_1), (wrap64 (x11_1 - 1)), (t253), (by first | rfl | (simp; done) | (simp [*]; done)), H', ⟨by have := HK1.out; have := HJ12.out; have := HJ25.out; omega⟩, ⟨by (with_reducible repeat (first | apply Kd.R_alloc | apply Kd.R_drewN | apply Kd.R_drew)); exact Kd.R_mono HO_9.out (fun _ hk => trivial)⟩, ⟨by (with_reducible repeat (first | apply Kd.R_alloc | apply Kd.R_drewN | apply Kd.R_drew)); exact HO_10.out⟩, ⟨by repeat (first | (with_reducible first | exact HI0.out | apply IsS119.alloc | apply IsS119.drewN | apply IsS119.drew | apply IsS119.set_1 | refine IsS119.far ?_ NB0_249.out _) | exact HI0.out)⟩, ⟨by repeat (first | (with_reducible first | exact HK.out | apply KeepBut.set_ | apply keep_drewN | apply keep_drew | apply keep_alloc | refine keep_far ?_ GW249.out _) | exact HK.out)⟩, ⟨by repeat (first | (with_reducible first | exact HB.out | apply bwA | apply bwN | apply bwD | refine below_set ?_ (IsS119.ge HI0.out) | refine below_set ?_ GE249.out) | exact HB.out)⟩⟩
          ·rw [if_neg c34] at H
           have c34b0 : (t254 == 0) = false := beq_eq_false_iff_ne.mpr c34
           have c34b1 : (t254 != 0) = true := bne_iff_ne.mpr c34
           by_cases c40 : x9_1.length < 4398046511104
           ·rw [if_pos c40] at H
            have LMc40 := Aside0.mk c40
            clear c40
            obtain ⟨y255, hy255⟩ : ∃ y_ : List (S73), y_ = (x9_1 ++ [(⟨1, t252, 0, 0⟩ : S73)]) := ⟨_, rfl⟩
            replace H : (if x10_1.length < 17592186044416 then (spec_l1Terms.l0 kj25 a1 a2 y255 (x10_1 ++ [t254]) (wrap64 (x11_1 - 1)) s0_0 t253) else (none)) = some (r1, r2) := by first | (rw [hy255]; with_reducible exact H) | (have H2_ := (Option.bind_some _ _).symm.trans H; rw [hy255]; with_reducible exact H2_) | (have H2_ := (Option.bind_some _ _).symm.trans H; with_reducible exact H2_) | with_reducible exact H | (rw [hy255]; exact H) | exact H
            have Ny255 := Aside0.mk hy255
            clear hy255
            by_cases c41 : x10_1.length < 17592186044416
            ·rw [if_pos c41] at H
             have LMc41 := Aside0.mk c41
             clear c41
             obtain ⟨y258, hy258⟩ : ∃ y_ : List Int, y_ = (x10_1 ++ [t254]) := ⟨_, rfl⟩
             replace H : (spec_l1Terms.l0 kj25 a1 a2 y255 y258 (wrap64 (x11_1 - 1)) s0_0 t253) = some (r1, r2) := by first | (rw [hy258]; with_reducible exact H) | (have H2_ := (Option.bind_some _ _).symm.trans H; rw [hy258]; with_reducible exact H2_) | (have H2_ := (Option.bind_some _ _).symm.trans H; with_reducible exact H2_) | with_reducible exact H | (rw [hy258]; exact H) | exact H
             have Ny258 := Aside0.mk hy258
             clear hy258
             have H' := Aside0.mk H
             clear H
             go_wp2_with (first | ((with_reducible refine gate_callee (f := 67) rfl ?_); refine goesL_ (some 51) rfl rfl Try.func67 (by kernel_rfl) rfl #[.pointer (some ⟨g, 0, none⟩), .int .i64 a1] rfl (by (try simp only [List.map_toArray, List.map_cons, List.map_nil]); first | done | rfl | (simp only [List.length_drop, List.length_take]; rfl)) ?_; (with_reducible refine (spec_l40Rd_pick.calls kj25 g s0_0 t251 a1 t252 t253 w0 _ ?side1 ?side2 A32.out).mono ?_); (case side1 => repeat (first | (with_reducible first | exact HI0.out | apply IsS119.alloc | apply IsS119.drewN | apply IsS119.drew | apply IsS119.set_1 | refine IsS119.far ?_ NB0_249.out _) | exact HI0.out)); (case side2 => repeat (first | (with_reducible first | exact HB.out | apply bwA | apply bwN | apply bwD | refine below_set ?_ (IsS119.ge HI0.out) | refine below_set ?_ GE249.out) | exact HB.out)); rintro e w42 ⟨rfl, hi, hb, hk⟩; refine ⟨_, rfl, ?_⟩; have n0_ := Aside0.mk (Kd.R_mono (Kd.R_keep (IsS119.apart (show IsS119 w0 _ g s0_0 t251 from by repeat (first | (with_reducible first | exact HI0.out | apply IsS119.alloc | apply IsS119.drewN | apply IsS119.drew | apply IsS119.set_1 | refine IsS119.far ?_ NB0_249.out _) | exact HI0.out)) (by (with_reducible repeat (first | apply Kd.R_alloc | apply Kd.R_drewN | apply Kd.R_drew)); exact HO_9.out) (by decide)) hk (fun _ h => h.2)) (fun _ h => h.1)); have n1_ := Aside0.mk (Kd.R_mono (Kd.R_keep (IsS119.apart (show IsS119 w0 _ g s0_0 t251 from by repeat (first | (with_reducible first | exact HI0.out | apply IsS119.alloc | apply IsS119.drewN | apply IsS119.drew | apply IsS119.set_1 | refine IsS119.far ?_ NB0_249.out _) | exact HI0.out)) (by (with_reducible repeat (first | apply Kd.R_alloc | apply Kd.R_drewN | apply Kd.R_drew)); exact HO_10.out) (by decide)) hk (fun _ h => h.2)) (fun _ h => h.1)); have n2_ := Aside0.mk (KeepBut.blk hk (g' := gb249) (o := .cells #[.int .i64 0, .int .i64 t250, .int .i64 0, .int .i64 0] 73 (0, 0)) (by (with_reducible repeat (first | refine blk_drewN ?_ _ | refine blk_drew ?_ | refine blk_alloc ?_ _)); exact BK249.out) NB249_0.out (by simp)); have n3_ := Aside0.mk (KeepBut.trans (by repeat (first | (with_reducible first | exact HK.out | apply KeepBut.set_ | apply keep_drewN | apply keep_drew | apply keep_alloc | refine keep_far ?_ GW249.out _) | exact HK.out)) hk (.inl rfl)); have n4_ := Aside0.mk (hb); have n5_ := Aside0.mk (hi); clear HO_9; clear HO_10; clear BK249; clear HK; clear HB; clear HI0; have HO_9 := n0_; have HO_10 := n1_; have BK249 := n2_; have HK := n3_; have HB := n4_; have HI0 := n5_; clear n0_ n1_ n2_ n3_ n4_ n5_; (try clear hb); (try clear hb2); (try clear hk); (try clear hi); have hnb43 := NB249_0.out; have hnc43 := NB0_249.out; have hcz44_0 : w42.cell? ⟨gb249, 0, none⟩ = some (.int .i64 0) := (blk_cell BK249.out 0).trans rfl; have hcz44_1 : w42.cell? ⟨gb249, 1, none⟩ = some (.int .i64 t250) := (blk_cell BK249.out 1).trans rfl; have hcz44_2 : w42.cell? ⟨gb249, 2, none⟩ = some (.int .i64 0) := (blk_cell BK249.out 2).trans rfl; have hcz44_3 : w42.cell? ⟨gb249, 3, none⟩ = some (.int .i64 0) := (blk_cell BK249.out 3).trans rfl; have hfz44_0 := blk_frozen BK249.out 0; have hfz44_1 := blk_frozen BK249.out 1; have hfz44_2 := blk_frozen BK249.out 2; have hfz44_3 := blk_frozen BK249.out 3; obtain ⟨Ao45, co45, eo45⟩ := Kd.R_slice HO_10.out; subst eo45) | ((with_reducible refine gate_callee (f := 106) rfl ?_); refine goesL_ (some 73) rfl rfl Try.func106 (by kernel_rfl) rfl #[.agg #[.int .i64 1, .int .i64 t252, .int .i64 0, .int .i64 0], .slice Ao45 x10_1.length co45, .int .i64 a1] rfl (by (try simp only [List.map_toArray, List.map_cons, List.map_nil]); first | done | rfl | (simp only [List.length_drop, List.length_take]; rfl)) ?_; (with_reducible refine (spec_l1Kind.calls kj25 1 t252 0 0 _ _ x10_1 a1 t254 _ ?side1 ?side2 A33.out).mono ?_); (case side1 => refine (Kd.R_reads' (e := 3) (base := w.heap.size) (ok := fun k_ => True) (n := x10_1.length) (c := co45) ?_).2.2; exact (by (with_reducible repeat (first | apply Kd.R_alloc | apply Kd.R_drewN | apply Kd.R_drew)); exact (Kd.R_mono (Kd.R_far (p := ⟨gb249, 3, none⟩) (Kd.R_far (p := ⟨gb249, 2, none⟩) (Kd.R_far (p := ⟨gb249, 1, none⟩) (Kd.R_far (p := ⟨gb249, 0, none⟩) (Kd.R_types HO_10.out BK249.out (by decide)) (fun _ hk => hk.2) (.int .i64 1)) (fun _ hk => hk.2) (.int .i64 t252)) (fun _ hk => hk.2) (.int .i64 0)) (fun _ hk => hk.2) (.int .i64 0)) (fun _ h_ => h_.1)))); (case side2 => exact (Kd.R_reads' HO_10.out).2.1); rintro e w46 ⟨rfl, hb⟩; refine ⟨_, rfl, ?_⟩; have n0_ := Aside0.mk (Kd.R_below (by (with_reducible repeat (first | apply Kd.R_alloc | apply Kd.R_drewN | apply Kd.R_drew)); exact (Kd.R_mono (Kd.R_far (p := ⟨gb249, 3, none⟩) (Kd.R_far (p := ⟨gb249, 2, none⟩) (Kd.R_far (p := ⟨gb249, 1, none⟩) (Kd.R_far (p := ⟨gb249, 0, none⟩) (Kd.R_mono HO_9.out (fun k_ hk => (⟨hk, hk⟩ : _ ∧ k_ ≠ gb249))) (fun _ hk => hk.2) (.int .i64 1)) (fun _ hk => hk.2) (.int .i64 t252)) (fun _ hk => hk.2) (.int .i64 0)) (fun _ hk => hk.2) (.int .i64 0)) (fun _ h_ => h_.1))) hb); have n1_ := Aside0.mk (Kd.R_below (by (with_reducible repeat (first | apply Kd.R_alloc | apply Kd.R_drewN | apply Kd.R_drew)); exact (Kd.R_mono (Kd.R_far (p := ⟨gb249, 3, none⟩) (Kd.R_far (p := ⟨gb249, 2, none⟩) (Kd.R_far (p := ⟨gb249, 1, none⟩) (Kd.R_far (p := ⟨gb249, 0, none⟩) (Kd.R_types HO_10.out BK249.out (by decide)) (fun _ hk => hk.2) (.int .i64 1)) (fun _ hk => hk.2) (.int .i64 t252)) (fun _ hk => hk.2) (.int .i64 0)) (fun _ hk => hk.2) (.int .i64 0)) (fun _ h_ => h_.1))) hb); have n2_ := Aside0.mk (blk_below (g := gb249) (o := .cells #[.int .i64 1, .int .i64 t252, .int .i64 0, .int .i64 0] 73 (0, 0)) (by (with_reducible repeat (first | refine blk_drewN ?_ _ | refine blk_drew ?_ | refine blk_alloc ?_ _)); refine blk_put (cs := #[.int .i64 1, .int .i64 t252, .int .i64 0, .int .i64 0]) ?_ 3 _ rfl; (with_reducible repeat (first | refine blk_drewN ?_ _ | refine blk_drew ?_ | refine blk_alloc ?_ _)); refine blk_put (cs := #[.int .i64 1, .int .i64 t252, .int .i64 0, .int .i64 0]) ?_ 2 _ rfl; (with_reducible repeat (first | refine blk_drewN ?_ _ | refine blk_drew ?_ | refine blk_alloc ?_ _)); refine blk_put (cs := #[.int .i64 1, .int .i64 t250, .int .i64 0, .int .i64 0]) ?_ 1 _ rfl; (with_reducible repeat (first | refine blk_drewN ?_ _ | refine blk_drew ?_ | refine blk_alloc ?_ _)); refine blk_put (cs := #[.int .i64 0, .int .i64 t250, .int .i64 0, .int .i64 0]) ?_ 0 _ rfl; (with_reducible repeat (first | refine blk_drewN ?_ _ | refine blk_drew ?_ | refine blk_alloc ?_ _)); exact BK249.out) hb); have n3_ := Aside0.mk (IsS119.below (show IsS119 w0 ((((w42.setCell ⟨gb249, 0, none⟩ (.int .i64 1)).setCell ⟨gb249, 1, none⟩ (.int .i64 t252)).setCell ⟨gb249, 2, none⟩ (.int .i64 0)).setCell ⟨gb249, 3, none⟩ (.int .i64 0)) g s0_0 t253 from by repeat (first | (with_reducible first | exact HI0.out | apply IsS119.alloc | apply IsS119.drewN | apply IsS119.drew | apply IsS119.set_1 | refine IsS119.far ?_ NB0_249.out _) | exact HI0.out)) hb); have n4_ := Aside0.mk (KeepBut.trans (by repeat (first | (with_reducible first | exact HK.out | apply KeepBut.set_ | apply keep_drewN | apply keep_drew | apply keep_alloc | refine keep_far ?_ GW249.out _) | exact HK.out)) (KeepBut.of_below hb g none) (.inl rfl)); have n5_ := Aside0.mk (below_step (by repeat (first | (with_reducible first | exact HB.out | apply bwA | apply bwN | apply bwD | refine below_set ?_ (IsS119.ge HI0.out) | refine below_set ?_ GE249.out) | exact HB.out)) hb); clear HO_9; clear HO_10; clear BK249; clear HI0; clear HK; clear HB; have HO_9 := n0_; have HO_10 := n1_; have BK249 := n2_; have HI0 := n3_; have HK := n4_; have HB := n5_; clear n0_ n1_ n2_ n3_ n4_ n5_; (try clear hb); (try clear hb2); (try clear hk); (try clear hi); have hcz47_0 : w46.cell? ⟨gb249, 0, none⟩ = some (.int .i64 1) := (blk_cell BK249.out 0).trans rfl; have hcz47_1 : w46.cell? ⟨gb249, 1, none⟩ = some (.int .i64 t252) := (blk_cell BK249.out 1).trans rfl; have hcz47_2 : w46.cell? ⟨gb249, 2, none⟩ = some (.int .i64 0) := (blk_cell BK249.out 2).trans rfl; have hcz47_3 : w46.cell? ⟨gb249, 3, none⟩ = some (.int .i64 0) := (blk_cell BK249.out 3).trans rfl; have hfz47_0 := blk_frozen BK249.out 0; have hfz47_1 := blk_frozen BK249.out 1; have hfz47_2 := blk_frozen BK249.out 2; have hfz47_3 := blk_frozen BK249.out 3) | ((with_reducible refine gate_builtin (b := .append) (xs := #[.tmp 76, .tmp 78]) rfl ?_); at_builtin; refine Kd.R_append k73 w.heap.size rfl (.tmp 76) (.tmp 78) 27 73 (.agg #[(.int .i64 0), (.int .i64 0), (.int .i64 0), (.int .i64 0)]) 32 rfl Try.underlying27 info73 rfl (by decide) (by omega) u9 x9_1 (⟨1, t252, 0, 0⟩ : S73) [.int .i64 1, .int .i64 t252, .int .i64 0, .int .i64 0] (fun k_ => k_ ≠ gb249) (fun _ => False) rfl rfl ?aP (fun _ hk => hk.elim) ?aF ?aO (Below.refl _ _) ?aS ?aL ?_; (case aP => exact k73_mkM _ _ _ (⟨1, t252, 0, 0⟩ : S73)); (case aF => exact (fun k_ hk => Kd.freshB (g := gb249) (o := .cells #[.int .i64 1, .int .i64 t252, .int .i64 0, .int .i64 0] 73 (0, 0)) (by (with_reducible repeat (first | refine blk_drewN ?_ _ | refine blk_drew ?_ | refine blk_alloc ?_ _)); exact BK249.out) k_ hk)); (case aO => exact (by (with_reducible repeat (first | apply Kd.R_alloc | apply Kd.R_drewN | apply Kd.R_drew)); exact HO_9.out)); (case aS => exact (keep_size (w := w) (g := g) (row := none) (by repeat (first | (with_reducible first | exact HK.out | apply KeepBut.set_ | apply keep_drewN | apply keep_drew | apply keep_alloc | refine keep_far ?_ GW249.out _) | exact HK.out)))); (case aL => have := LMc40.out; omega); intro v256 w48 ho hb hg hat; rw [← Ny255.out] at ho; have n0_ := Aside0.mk (Kd.R_over' (by (with_reducible repeat (first | apply Kd.R_alloc | apply Kd.R_drewN | apply Kd.R_drew)); exact HO_10.out) (Kd.R_typed (by (with_reducible repeat (first | apply Kd.R_alloc | apply Kd.R_drewN | apply Kd.R_drew)); exact HO_9.out)) (by decide) hg); have n1_ := Aside0.mk (blk_grown (g := gb249) (o := .cells #[.int .i64 1, .int .i64 t252, .int .i64 0, .int .i64 0] 73 (0, 0)) (by (with_reducible repeat (first | refine blk_drewN ?_ _ | refine blk_drew ?_ | refine blk_alloc ?_ _)); exact BK249.out) hg (Kd.R_away HO_9.out (fun _ hk => hk))); have n2_ := Aside0.mk (IsS119.grown (by repeat (first | (with_reducible first | exact HI0.out | apply IsS119.alloc | apply IsS119.drewN | apply IsS119.drew | apply IsS119.set_1 | refine IsS119.far ?_ NB0_249.out _) | exact HI0.out)) hg (IsS119.own_ne HI0.out HO_9.out (by decide))); have n3_ := Aside0.mk (below_weaken (by repeat (first | (with_reducible first | exact HB.out | apply bwA | apply bwN | apply bwD | refine below_set ?_ (IsS119.ge HI0.out) | refine below_set ?_ GE249.out) | exact HB.out)) HL.out hb); have n4_ := Aside0.mk (KeepBut.trans (by repeat (first | (with_reducible first | exact HK.out | apply KeepBut.set_ | apply keep_drewN | apply keep_drew | apply keep_alloc | refine keep_far ?_ GW249.out _) | exact HK.out)) (KeepBut.of_grown hg g) (Kd.R_base2 HO_9.out)); have n5_ := Aside0.mk (ho); clear HO_10; clear BK249; clear HI0; clear HB; clear HK; clear HO_9; have HO_10 := n0_; have BK249 := n1_; have HI0 := n2_; have HB := n3_; have HK := n4_; have HO257 := n5_; clear n0_ n1_ n2_ n3_ n4_ n5_; clear ho hb hg hat) | ((with_reducible refine gate_builtin (b := .append) (xs := #[.tmp 80, .tmp 82]) rfl ?_); at_builtin; refine Kd.R_append (Kd.int .i64) w.heap.size rfl (.tmp 80) (.tmp 82) 23 3 (.int .i64 0) 8 rfl Try.underlying23 info3 rfl (by decide) (by omega) (.slice Ao45 x10_1.length co45) x10_1 t254 [.int .i64 t254] (fun _ => True) (fun _ => False) rfl rfl ?aP (fun _ hk => hk.elim) ?aF ?aO (Below.refl _ _) ?aS ?aL ?_; (case aP => exact rfl); (case aF => exact (fun _ _ => trivial)); (case aO => exact (by (with_reducible repeat (first | apply Kd.R_alloc | apply Kd.R_drewN | apply Kd.R_drew)); exact HO_10.out)); (case aS => exact (keep_size (w := w) (g := g) (row := none) (by repeat (first | (with_reducible first | exact HK.out | apply KeepBut.set_ | apply keep_drewN | apply keep_drew | apply keep_alloc | refine keep_far ?_ GW249.out _) | exact HK.out)))); (case aL => have := LMc41.out; omega); intro v259 w49 ho hb hg hat; rw [← Ny258.out] at ho; have n0_ := Aside0.mk (blk_grown (g := gb249) (o := .cells #[.int .i64 1, .int .i64 t252, .int .i64 0, .int .i64 0] 73 (0, 0)) (by (with_reducible repeat (first | refine blk_drewN ?_ _ | refine blk_drew ?_ | refine blk_alloc ?_ _)); exact BK249.out) hg (Kd.R_ne HO_10.out BK249.out (by decide))); have n1_ := Aside0.mk (IsS119.grown (by repeat (first | (with_reducible first | exact HI0.out | apply IsS119.alloc | apply IsS119.drewN | apply IsS119.drew | apply IsS119.set_1 | refine IsS119.far ?_ NB0_249.out _) | exact HI0.out)) hg (IsS119.own_ne HI0.out HO_10.out (by decide))); have n2_ := Aside0.mk (Kd.R_over' (by (with_reducible repeat (first | apply Kd.R_alloc | apply Kd.R_drewN | apply Kd.R_drew)); exact HO257.out) (Kd.R_typed (by (with_reducible repeat (first | apply Kd.R_alloc | apply Kd.R_drewN | apply Kd.R_drew)); exact HO_10.out)) (by decide) hg); have n3_ := Aside0.mk (below_weaken (by repeat (first | (with_reducible first | exact HB.out | apply bwA | apply bwN | apply bwD | refine below_set ?_ (IsS119.ge HI0.out) | refine below_set ?_ GE249.out) | exact HB.out)) HL.out hb); have n4_ := Aside0.mk (KeepBut.trans (by repeat (first | (with_reducible first | exact HK.out | apply KeepBut.set_ | apply keep_drewN | apply keep_drew | apply keep_alloc | refine keep_far ?_ GW249.out _) | exact HK.out)) (KeepBut.of_grown hg g) (Kd.R_base2 HO_10.out)); have n5_ := Aside0.mk (ho); clear BK249; clear HI0; clear HO257; clear HB; clear HK; clear HO_10; have BK249 := n0_; have HI0 := n1_; have HO257 := n2_; have HB := n3_; have HK := n4_; have HO260 := n5_; clear n0_ n1_ n2_ n3_ n4_ n5_; clear ho hb hg hat))
             go_roundg kj25
             case measure => have := HK1.out; have := HJ12.out; have := HJ25.out; omega
             case rel => exact ⟨(y255), (y258), (wrap64 (x11_1 - 1)), (t253), (by first | rfl | (simp; done) | (simp [*]; done)), H', ⟨by have := HK1.out; have := HJ12.out; have := HJ25.out; omega⟩, ⟨by (with_reducible repeat (first | apply Kd.R_alloc | apply Kd.R_drewN | apply Kd.R_drew)); exact Kd.R_mono HO257.out (fun _ hk => trivial)⟩, ⟨by (with_reducible repeat (first | apply Kd.R_alloc | apply Kd.R_drewN | apply Kd.R_drew)); exact HO260.out⟩, ⟨by repeat (first | (with_reducible first | exact HI0.out | apply IsS119.alloc | apply IsS119.drewN | apply IsS119.drew | apply IsS119.set_1 | refine IsS119.far ?_ NB0_249.out _) | exact HI0.out)⟩, ⟨by repeat (first | (with_reducible first | exact HK.out | apply KeepBut.set_ | apply keep_drewN | apply keep_drew | apply keep_alloc | refine keep_far ?_ GW249.out _) | exact HK.out)⟩, ⟨by repeat (first | (with_reducible first | exact HB.out | apply bwA | apply bwN | apply bwD | refine below_set ?_ (IsS119.ge HI0.out) | refine below_set ?_ GE249.out) | exact HB.out)⟩⟩
            ·rw [if_neg c41] at H
             exact absurd H (by simp)
           ·rw [if_neg c40] at H
            exact absurd H (by simp)
         ·replace c31 := Bool.eq_false_iff.mpr c31
          subst c31
          have H1 : ((spec_l1Kind.f kj25 0 t250 0 0 x10_1 a1).bind fun t261 => (if t261 = 0 then (spec_l1Terms.l0 kj25 a1 a2 x9_1 x10_1 (wrap64 (x11_1 - 1)) s0_0 t251) else (if x9_1.length < 4398046511104 then (if x10_1.length < 17592186044416 then (spec_l1Terms.l0 kj25 a1 a2 (x9_1 ++ [(⟨0, t250, 0, 0⟩ : S73)]) (x10_1 ++ [t261]) (wrap64 (x11_1 - 1)) s0_0 t251) else (none)) else (none)))) = some (r1, r2) := by rw [if_neg (show ¬ (false = true) by decide)] at H; exact H
          clear H
          have H := H1
          clear H1
          replace H := Option.bind_eq_some_iff.mp H
          obtain ⟨t261, A500, H⟩ := H
          replace H : (if t261 = 0 then (spec_l1Terms.l0 kj25 a1 a2 x9_1 x10_1 (wrap64 (x11_1 - 1)) s0_0 t251) else (if x9_1.length < 4398046511104 then (if x10_1.length < 17592186044416 then (spec_l1Terms.l0 kj25 a1 a2 (x9_1 ++ [(⟨0, t250, 0, 0⟩ : S73)]) (x10_1 ++ [t261]) (wrap64 (x11_1 - 1)) s0_0 t251) else (none)) else (none))) = some (r1, r2) := H
          have A50 := Aside0.mk A500
          clear A500
          by_cases c51 : t261 = 0
          ·rw [if_pos c51] at H
           have c51b0 : (t261 == 0) = true := beq_iff_eq.mpr c51
           have c51b1 : (t261 != 0) = false := bne_eq_false_iff_eq.mpr c51
           clear c51
           have H' := Aside0.mk H
           clear H
           have hnb52 := NB249_0.out
           have hnc52 := NB0_249.out
           have hcz53_0 : wc.cell? ⟨gb249, 0, none⟩ = some (.int .i64 0) := (blk_cell BK249.out 0).trans rfl
           have hcz53_1 : wc.cell? ⟨gb249, 1, none⟩ = some (.int .i64 t250) := (blk_cell BK249.out 1).trans rfl
           have hcz53_2 : wc.cell? ⟨gb249, 2, none⟩ = some (.int .i64 0) := (blk_cell BK249.out 2).trans rfl
           have hcz53_3 : wc.cell? ⟨gb249, 3, none⟩ = some (.int .i64 0) := (blk_cell BK249.out 3).trans rfl
           have hfz53_0 := blk_frozen BK249.out 0
           have hfz53_1 := blk_frozen BK249.out 1
           have hfz53_2 := blk_frozen BK249.out 2
           have hfz53_3 := blk_frozen BK249.out 3
           obtain ⟨Ao54, co54, eo54⟩ := Kd.R_slice HO_10.out
           subst eo54
           go_wp2_with (first | ((with_reducible refine gate_callee (f := 106) rfl ?_); refine goesL_ (some 73) rfl rfl Try.func106 (by kernel_rfl) rfl #[.agg #[.int .i64 0, .int .i64 t250, .int .i64 0, .int .i64 0], .slice Ao54 x10_1.length co54, .int .i64 a1] rfl (by (try simp only [List.map_toArray, List.map_cons, List.map_nil]); first | done | rfl | (simp only [List.length_drop, List.length_take]; rfl)) ?_; (with_reducible refine (spec_l1Kind.calls kj25 0 t250 0 0 _ _ x10_1 a1 t261 _ ?side1 ?side2 A50.out).mono ?_); (case side1 => repeat (first | exact (Kd.R_reads' HO_10.out).2.2 | (with_reducible refine Kd.C_alloc ?_ _) | (with_reducible refine Kd.C_drewN ?_ _) | (with_reducible refine Kd.C_drew ?_))); (case side2 => exact (Kd.R_reads' HO_10.out).2.1); rintro e w55 ⟨rfl, hb⟩; refine ⟨_, rfl, ?_⟩; have n0_ := Aside0.mk (Kd.R_below (by (with_reducible repeat (first | apply Kd.R_alloc | apply Kd.R_drewN | apply Kd.R_drew)); exact HO_9.out) hb); have n1_ := Aside0.mk (Kd.R_below (by (with_reducible repeat (first | apply Kd.R_alloc | apply Kd.R_drewN | apply Kd.R_drew)); exact HO_10.out) hb); have n2_ := Aside0.mk (blk_below (g := gb249) (o := .cells #[.int .i64 0, .int .i64 t250, .int .i64 0, .int .i64 0] 73 (0, 0)) (by (with_reducible repeat (first | refine blk_drewN ?_ _ | refine blk_drew ?_ | refine blk_alloc ?_ _)); exact BK249.out) hb); have n3_ := Aside0.mk (IsS119.below (by repeat (first | (with_reducible first | exact HI0.out | apply IsS119.alloc | apply IsS119.drewN | apply IsS119.drew | apply IsS119.set_1 | refine IsS119.far ?_ NB0_249.out _) | exact HI0.out)) hb); have n4_ := Aside0.mk (KeepBut.trans (by repeat (first | (with_reducible first | exact HK.out | apply KeepBut.set_ | apply keep_drewN | apply keep_drew | apply keep_alloc | refine keep_far ?_ GW249.out _) | exact HK.out)) (KeepBut.of_below hb g none) (.inl rfl)); have n5_ := Aside0.mk (below_step (by repeat (first | (with_reducible first | exact HB.out | apply bwA | apply bwN | apply bwD | refine below_set ?_ (IsS119.ge HI0.out) | refine below_set ?_ GE249.out) | exact HB.out)) hb); clear HO_9; clear HO_10; clear BK249; clear HI0; clear HK; clear HB; have HO_9 := n0_; have HO_10 := n1_; have BK249 := n2_; have HI0 := n3_; have HK := n4_; have HB := n5_; clear n0_ n1_ n2_ n3_ n4_ n5_; (try clear hb); (try clear hb2); (try clear hk); (try clear hi)))
           go_roundg kj25
           case measure => have := HK1.out; have := HJ12.out; have := HJ25.out; omega
           case rel => exact ⟨(x9_1), (x10_1), (wrap64 (x11_1 - 1)), (t251), (by first | rfl | (simp; done) | (simp [*]; done)), H', ⟨by have := HK1.out; have := HJ12.out; have := HJ25.out; omega⟩, ⟨by (with_reducible repeat (first | apply Kd.R_alloc | apply Kd.R_drewN | apply Kd.R_drew)); exact Kd.R_mono HO_9.out (fun _ hk => trivial)⟩, ⟨by (with_reducible repeat (first | apply Kd.R_alloc | apply Kd.R_drewN | apply Kd.R_drew)); exact HO_10.out⟩, ⟨by repeat (first | (with_reducible first | exact HI0.out | apply IsS119.alloc | apply IsS119.drewN | apply IsS119.drew | apply IsS119.set_1 | refine IsS119.far ?_ NB0_249.out _) | exact HI0.out)⟩, ⟨by repeat (first | (with_reducible first | exact HK.out | apply KeepBut.set_ | apply keep_drewN | apply keep_drew | apply keep_alloc | refine keep_far ?_ GW249.out _) | exact HK.out)⟩, ⟨by repeat (first | (with_reducible first | exact HB.out | apply bwA | apply bwN | apply bwD | refine below_set ?_ (IsS119.ge HI0.out) | refine below_set ?_ GE249.out) | exact HB.out)⟩⟩
          ·rw [if_neg c51] at H
           have c51b0 : (t261 == 0) = false := beq_eq_false_iff_ne.mpr c51
           have c51b1 : (t261 != 0) = true := bne_iff_ne.mpr c51
           by_cases c56 : x9_1.length < 4398046511104
           ·rw [if_pos c56] at H
            have LMc56 := Aside0.mk c56
            clear c56
            obtain ⟨y262, hy262⟩ : ∃ y_ : List (S73), y_ = (x9_1 ++ [(⟨0, t250, 0, 0⟩ : S73)]) := ⟨_, rfl⟩
            replace H : (if x10_1.length < 17592186044416 then (spec_l1Terms.l0 kj25 a1 a2 y262 (x10_1 ++ [t261]) (wrap64 (x11_1 - 1)) s0_0 t251) else (none)) = some (r1, r2) := by first | (rw [hy262]; with_reducible exact H) | (have H2_ := (Option.bind_some _ _).symm.trans H; rw [hy262]; with_reducible exact H2_) | (have H2_ := (Option.bind_some _ _).symm.trans H; with_reducible exact H2_) | with_reducible exact H | (rw [hy262]; exact H) | exact H
            have Ny262 := Aside0.mk hy262
            clear hy262
            by_cases c57 : x10_1.length < 17592186044416
            ·rw [if_pos c57] at H
             have LMc57 := Aside0.mk c57
             clear c57
             obtain ⟨y265, hy265⟩ : ∃ y_ : List Int, y_ = (x10_1 ++ [t261]) := ⟨_, rfl⟩
             replace H : (spec_l1Terms.l0 kj25 a1 a2 y262 y265 (wrap64 (x11_1 - 1)) s0_0 t251) = some (r1, r2) := by first | (rw [hy265]; with_reducible exact H) | (have H2_ := (Option.bind_some _ _).symm.trans H; rw [hy265]; with_reducible exact H2_) | (have H2_ := (Option.bind_some _ _).symm.trans H; with_reducible exact H2_) | with_reducible exact H | (rw [hy265]; exact H) | exact H
             have Ny265 := Aside0.mk hy265
             clear hy265
             have H' := Aside0.mk H
             clear H
             have hnb58 := NB249_0.out
             have hnc58 := NB0_249.out
             have hcz59_0 : wc.cell? ⟨gb249, 0, none⟩ = some (.int .i64 0) := (blk_cell BK249.out 0).trans rfl
             have hcz59_1 : wc.cell? ⟨gb249, 1, none⟩ = some (.int .i64 t250) := (blk_cell BK249.out 1).trans rfl
             have hcz59_2 : wc.cell? ⟨gb249, 2, none⟩ = some (.int .i64 0) := (blk_cell BK249.out 2).trans rfl
             have hcz59_3 : wc.cell? ⟨gb249, 3, none⟩ = some (.int .i64 0) := (blk_cell BK249.out 3).trans rfl
             have hfz59_0 := blk_frozen BK249.out 0
             have hfz59_1 := blk_frozen BK249.out 1
             have hfz59_2 := blk_frozen BK249.out 2
             have hfz59_3 := blk_frozen BK249.out 3
             obtain ⟨Ao60, co60, eo60⟩ := Kd.R_slice HO_10.out
             subst eo60
             go_wp2_with (first | ((with_reducible refine gate_callee (f := 106) rfl ?_); refine goesL_ (some 73) rfl rfl Try.func106 (by kernel_rfl) rfl #[.agg #[.int .i64 0, .int .i64 t250, .int .i64 0, .int .i64 0], .slice Ao60 x10_1.length co60, .int .i64 a1] rfl (by (try simp only [List.map_toArray, List.map_cons, List.map_nil]); first | done | rfl | (simp only [List.length_drop, List.length_take]; rfl)) ?_; (with_reducible refine (spec_l1Kind.calls kj25 0 t250 0 0 _ _ x10_1 a1 t261 _ ?side1 ?side2 A50.out).mono ?_); (case side1 => repeat (first | exact (Kd.R_reads' HO_10.out).2.2 | (with_reducible refine Kd.C_alloc ?_ _) | (with_reducible refine Kd.C_drewN ?_ _) | (with_reducible refine Kd.C_drew ?_))); (case side2 => exact (Kd.R_reads' HO_10.out).2.1); rintro e w61 ⟨rfl, hb⟩; refine ⟨_, rfl, ?_⟩; have n0_ := Aside0.mk (Kd.R_below (by (with_reducible repeat (first | apply Kd.R_alloc | apply Kd.R_drewN | apply Kd.R_drew)); exact HO_9.out) hb); have n1_ := Aside0.mk (Kd.R_below (by (with_reducible repeat (first | apply Kd.R_alloc | apply Kd.R_drewN | apply Kd.R_drew)); exact HO_10.out) hb); have n2_ := Aside0.mk (blk_below (g := gb249) (o := .cells #[.int .i64 0, .int .i64 t250, .int .i64 0, .int .i64 0] 73 (0, 0)) (by (with_reducible repeat (first | refine blk_drewN ?_ _ | refine blk_drew ?_ | refine blk_alloc ?_ _)); exact BK249.out) hb); have n3_ := Aside0.mk (IsS119.below (by repeat (first | (with_reducible first | exact HI0.out | apply IsS119.alloc | apply IsS119.drewN | apply IsS119.drew | apply IsS119.set_1 | refine IsS119.far ?_ NB0_249.out _) | exact HI0.out)) hb); have n4_ := Aside0.mk (KeepBut.trans (by repeat (first | (with_reducible first | exact HK.out | apply KeepBut.set_ | apply keep_drewN | apply keep_drew | apply keep_alloc | refine keep_far ?_ GW249.out _) | exact HK.out)) (KeepBut.of_below hb g none) (.inl rfl)); have n5_ := Aside0.mk (below_step (by repeat (first | (with_reducible first | exact HB.out | apply bwA | apply bwN | apply bwD | refine below_set ?_ (IsS119.ge HI0.out) | refine below_set ?_ GE249.out) | exact HB.out)) hb); clear HO_9; clear HO_10; clear BK249; clear HI0; clear HK; clear HB; have HO_9 := n0_; have HO_10 := n1_; have BK249 := n2_; have HI0 := n3_; have HK := n4_; have HB := n5_; clear n0_ n1_ n2_ n3_ n4_ n5_; (try clear hb); (try clear hb2); (try clear hk); (try clear hi); have hcz62_0 : w61.cell? ⟨gb249, 0, none⟩ = some (.int .i64 0) := (blk_cell BK249.out 0).trans rfl; have hcz62_1 : w61.cell? ⟨gb249, 1, none⟩ = some (.int .i64 t250) := (blk_cell BK249.out 1).trans rfl; have hcz62_2 : w61.cell? ⟨gb249, 2, none⟩ = some (.int .i64 0) := (blk_cell BK249.out 2).trans rfl; have hcz62_3 : w61.cell? ⟨gb249, 3, none⟩ = some (.int .i64 0) := (blk_cell BK249.out 3).trans rfl; have hfz62_0 := blk_frozen BK249.out 0; have hfz62_1 := blk_frozen BK249.out 1; have hfz62_2 := blk_frozen BK249.out 2; have hfz62_3 := blk_frozen BK249.out 3) | ((with_reducible refine gate_builtin (b := .append) (xs := #[.tmp 76, .tmp 78]) rfl ?_); at_builtin; refine Kd.R_append k73 w.heap.size rfl (.tmp 76) (.tmp 78) 27 73 (.agg #[(.int .i64 0), (.int .i64 0), (.int .i64 0), (.int .i64 0)]) 32 rfl Try.underlying27 info73 rfl (by decide) (by omega) u9 x9_1 (⟨0, t250, 0, 0⟩ : S73) [.int .i64 0, .int .i64 t250, .int .i64 0, .int .i64 0] (fun k_ => k_ ≠ gb249) (fun _ => False) rfl rfl ?aP (fun _ hk => hk.elim) ?aF ?aO (Below.refl _ _) ?aS ?aL ?_; (case aP => exact k73_mkM _ _ _ (⟨0, t250, 0, 0⟩ : S73)); (case aF => exact (fun k_ hk => Kd.freshB (g := gb249) (o := .cells #[.int .i64 0, .int .i64 t250, .int .i64 0, .int .i64 0] 73 (0, 0)) (by (with_reducible repeat (first | refine blk_drewN ?_ _ | refine blk_drew ?_ | refine blk_alloc ?_ _)); exact BK249.out) k_ hk)); (case aO => exact (by (with_reducible repeat (first | apply Kd.R_alloc | apply Kd.R_drewN | apply Kd.R_drew)); exact HO_9.out)); (case aS => exact (keep_size (w := w) (g := g) (row := none) (by repeat (first | (with_reducible first | exact HK.out | apply KeepBut.set_ | apply keep_drewN | apply keep_drew | apply keep_alloc | refine keep_far ?_ GW249.out _) | exact HK.out)))); (case aL => have := LMc56.out; omega); intro v263 w63 ho hb hg hat; rw [← Ny262.out] at ho; have n0_ := Aside0.mk (Kd.R_over' (by (with_reducible repeat (first | apply Kd.R_alloc | apply Kd.R_drewN | apply Kd.R_drew)); exact HO_10.out) (Kd.R_typed (by (with_reducible repeat (first | apply Kd.R_alloc | apply Kd.R_drewN | apply Kd.R_drew)); exact HO_9.out)) (by decide) hg); have n1_ := Aside0.mk (blk_grown (g := gb249) (o := .cells #[.int .i64 0, .int .i64 t250, .int .i64 0, .int .i64 0] 73 (0, 0)) (by (with_reducible repeat (first | refine blk_drewN ?_ _ | refine blk_drew ?_ | refine blk_alloc ?_ _)); exact BK249.out) hg (Kd.R_away HO_9.out (fun _ hk => hk))); have n2_ := Aside0.mk (IsS119.grown (by repeat (first | (with_reducible first | exact HI0.out | apply IsS119.alloc | apply IsS119.drewN | apply IsS119.drew | apply IsS119.set_1 | refine IsS119.far ?_ NB0_249.out _) | exact HI0.out)) hg (IsS119.own_ne HI0.out HO_9.out (by decide))); have n3_ := Aside0.mk (below_weaken (by repeat (first | (with_reducible first | exact HB.out | apply bwA | apply bwN | apply bwD | refine below_set ?_ (IsS119.ge HI0.out) | refine below_set ?_ GE249.out) | exact HB.out)) HL.out hb); have n4_ := Aside0.mk (KeepBut.trans (by repeat (first | (with_reducible first | exact HK.out | apply KeepBut.set_ | apply keep_drewN | apply keep_drew | apply keep_alloc | refine keep_far ?_ GW249.out _) | exact HK.out)) (KeepBut.of_grown hg g) (Kd.R_base2 HO_9.out)); have n5_ := Aside0.mk (ho); clear HO_10; clear BK249; clear HI0; clear HB; clear HK; clear HO_9; have HO_10 := n0_; have BK249 := n1_; have HI0 := n2_; have HB := n3_; have HK := n4_; have HO264 := n5_; clear n0_ n1_ n2_ n3_ n4_ n5_; clear ho hb hg hat) | ((with_reducible refine gate_builtin (b := .append) (xs := #[.tmp 80, .tmp 82]) rfl ?_); at_builtin; refine Kd.R_append (Kd.int .i64) w.heap.size rfl (.tmp 80) (.tmp 82) 23 3 (.int .i64 0) 8 rfl Try.underlying23 info3 rfl (by decide) (by omega) (.slice Ao60 x10_1.length co60) x10_1 t261 [.int .i64 t261] (fun _ => True) (fun _ => False) rfl rfl ?aP (fun _ hk => hk.elim) ?aF ?aO (Below.refl _ _) ?aS ?aL ?_; (case aP => exact rfl); (case aF => exact (fun _ _ => trivial)); (case aO => exact (by (with_reducible repeat (first | apply Kd.R_alloc | apply Kd.R_drewN | apply Kd.R_drew)); exact HO_10.out)); (case aS => exact (keep_size (w := w) (g := g) (row := none) (by repeat (first | (with_reducible first | exact HK.out | apply KeepBut.set_ | apply keep_drewN | apply keep_drew | apply keep_alloc | refine keep_far ?_ GW249.out _) | exact HK.out)))); (case aL => have := LMc57.out; omega); intro v266 w64 ho hb hg hat; rw [← Ny265.out] at ho; have n0_ := Aside0.mk (blk_grown (g := gb249) (o := .cells #[.int .i64 0, .int .i64 t250, .int .i64 0, .int .i64 0] 73 (0, 0)) (by (with_reducible repeat (first | refine blk_drewN ?_ _ | refine blk_drew ?_ | refine blk_alloc ?_ _)); exact BK249.out) hg (Kd.R_ne HO_10.out BK249.out (by decide))); have n1_ := Aside0.mk (IsS119.grown (by repeat (first | (with_reducible first | exact HI0.out | apply IsS119.alloc | apply IsS119.drewN | apply IsS119.drew | apply IsS119.set_1 | refine IsS119.far ?_ NB0_249.out _) | exact HI0.out)) hg (IsS119.own_ne HI0.out HO_10.out (by decide))); have n2_ := Aside0.mk (Kd.R_over' (by (with_reducible repeat (first | apply Kd.R_alloc | apply Kd.R_drewN | apply Kd.R_drew)); exact HO264.out) (Kd.R_typed (by (with_reducible repeat (first | apply Kd.R_alloc | apply Kd.R_drewN | apply Kd.R_drew)); exact HO_10.out)) (by decide) hg); have n3_ := Aside0.mk (below_weaken (by repeat (first | (with_reducible first | exact HB.out | apply bwA | apply bwN | apply bwD | refine below_set ?_ (IsS119.ge HI0.out) | refine below_set ?_ GE249.out) | exact HB.out)) HL.out hb); have n4_ := Aside0.mk (KeepBut.trans (by repeat (first | (with_reducible first | exact HK.out | apply KeepBut.set_ | apply keep_drewN | apply keep_drew | apply keep_alloc | refine keep_far ?_ GW249.out _) | exact HK.out)) (KeepBut.of_grown hg g) (Kd.R_base2 HO_10.out)); have n5_ := Aside0.mk (ho); clear BK249; clear HI0; clear HO264; clear HB; clear HK; clear HO_10; have BK249 := n0_; have HI0 := n1_; have HO264 := n2_; have HB := n3_; have HK := n4_; have HO267 := n5_; clear n0_ n1_ n2_ n3_ n4_ n5_; clear ho hb hg hat))
             go_roundg kj25
             case measure => have := HK1.out; have := HJ12.out; have := HJ25.out; omega
             case rel => exact ⟨(y262), (y265), (wrap64 (x11_1 - 1)), (t251), (by first | rfl | (simp; done) | (simp [*]; done)), H', ⟨by have := HK1.out; have := HJ12.out; have := HJ25.out; omega⟩, ⟨by (with_reducible repeat (first | apply Kd.R_alloc | apply Kd.R_drewN | apply Kd.R_drew)); exact Kd.R_mono HO264.out (fun _ hk => trivial)⟩, ⟨by (with_reducible repeat (first | apply Kd.R_alloc | apply Kd.R_drewN | apply Kd.R_drew)); exact HO267.out⟩, ⟨by repeat (first | (with_reducible first | exact HI0.out | apply IsS119.alloc | apply IsS119.drewN | apply IsS119.drew | apply IsS119.set_1 | refine IsS119.far ?_ NB0_249.out _) | exact HI0.out)⟩, ⟨by repeat (first | (with_reducible first | exact HK.out | apply KeepBut.set_ | apply keep_drewN | apply keep_drew | apply keep_alloc | refine keep_far ?_ GW249.out _) | exact HK.out)⟩, ⟨by repeat (first | (with_reducible first | exact HB.out | apply bwA | apply bwN | apply bwD | refine below_set ?_ (IsS119.ge HI0.out) | refine below_set ?_ GE249.out) | exact HB.out)⟩⟩
            ·rw [if_neg c57] at H
             exact absurd H (by simp)
           ·rw [if_neg c56] at H
            exact absurd H (by simp)
      ·replace c24 := Bool.eq_false_iff.mpr c24
       subst c24
       have H1 : (if t247 ≥ 7 then (spec_l1Terms.j3 kj12 a1 a2 x9_1 x10_1 x11_1 t247 2 s0_0 t248 t247 0 0 0) else (spec_l1Terms.j3 kj12 a1 a2 x9_1 x10_1 x11_1 t247 1 s0_0 t248 t247 0 0 0)) = some (r1, r2) := by rw [if_neg (show ¬ (false = true) by decide)] at H; exact H
       clear H
       have H := H1
       clear H1
       have HC65 := Aside0.mk H
       clear H
       go_upto_if 54 with (fail)
       go_cut [14] (fun v14 wc => ∃ (kq : Nat) (x14_64 : Int), v14 = .int .i64 x14_64 ∧ Aside0 (spec_l1Terms.j3 kq a1 a2 x9_1 x10_1 x11_1 t247 x14_64 s0_0 t248 t247 0 0 0 = some (r1, r2)) ∧ Aside0 (kq ≤ kj12) ∧ Aside0 (Kd.R k73 73 wc w.heap.size (fun k_ => k_ ≠ gb249) u9 x9_1) ∧ Aside0 (Kd.R (Kd.int .i64) 3 wc w.heap.size (fun _ => True) u10 x10_1) ∧ Aside0 (wc.heap[gb249]? = some (.cells #[.int .i64 t247, .int .i64 0, .int .i64 0, .int .i64 0] 73 (0, 0))) ∧ Aside0 (IsS119 w0 wc g s0_0 t248) ∧ Aside0 (KeepBut w wc g none) ∧ Aside0 (Below w0.heap.size w0 wc))
       case first =>
        have H := HC65.out
        clear HC65
        by_cases c66 : t247 ≥ 7
        ·rw [if_pos c66] at H
         have c66b0 : decide (7 ≤ t247) = true := decide_eq_true c66
         clear c66
         (first | rw [c66b0] | (simp only [i64_w, i32_w]; rw [c66b0]) | skip)
         have H' := Aside0.mk H
         clear H
         go_wp2
         go_meet
         case rel => exact ⟨_, (2), (by first | rfl | (simp; done) | (simp [*]; done)), H', ⟨by have := HK1.out; have := HJ12.out; first | omega | exact Nat.le_refl _⟩, ⟨by (with_reducible repeat (first | apply Kd.R_alloc | apply Kd.R_drewN | apply Kd.R_drew)); exact HO_9.out⟩, ⟨by (with_reducible repeat (first | apply Kd.R_alloc | apply Kd.R_drewN | apply Kd.R_drew)); exact HO_10.out⟩, ⟨by (with_reducible repeat (first | refine blk_drewN ?_ _ | refine blk_drew ?_ | refine blk_alloc ?_ _)); exact BK249.out⟩, ⟨by repeat (first | (with_reducible first | exact HI0.out | apply IsS119.alloc | apply IsS119.drewN | apply IsS119.drew | apply IsS119.set_1 | refine IsS119.far ?_ NB0_249.out _) | exact HI0.out)⟩, ⟨by repeat (first | (with_reducible first | exact HK.out | apply KeepBut.set_ | apply keep_drewN | apply keep_drew | apply keep_alloc | refine keep_far ?_ GW249.out _) | exact HK.out)⟩, ⟨by repeat (first | (with_reducible first | exact HB.out | apply bwA | apply bwN | apply bwD | refine below_set ?_ (IsS119.ge HI0.out) | refine below_set ?_ GE249.out) | exact HB.out)⟩⟩
        ·rw [if_neg c66] at H
         have c66b0 : decide (7 ≤ t247) = false := decide_eq_false c66
         clear c66
         (first | rw [c66b0] | (simp only [i64_w, i32_w]; rw [c66b0]) | skip)
         have H' := Aside0.mk H
         clear H
         go_wp2
         go_meet
         case rel => exact ⟨_, (1), (by first | rfl | (simp; done) | (simp [*]; done)), H', ⟨by have := HK1.out; have := HJ12.out; first | omega | exact Nat.le_refl _⟩, ⟨by (with_reducible repeat (first | apply Kd.R_alloc | apply Kd.R_drewN | apply Kd.R_drew)); exact HO_9.out⟩, ⟨by (with_reducible repeat (first | apply Kd.R_alloc | apply Kd.R_drewN | apply Kd.R_drew)); exact HO_10.out⟩, ⟨by (with_reducible repeat (first | refine blk_drewN ?_ _ | refine blk_drew ?_ | refine blk_alloc ?_ _)); exact BK249.out⟩, ⟨by repeat (first | (with_reducible first | exact HI0.out | apply IsS119.alloc | apply IsS119.drewN | apply IsS119.drew | apply IsS119.set_1 | refine IsS119.far ?_ NB0_249.out _) | exact HI0.out)⟩, ⟨by repeat (first | (with_reducible first | exact HK.out | apply KeepBut.set_ | apply keep_drewN | apply keep_drew | apply keep_alloc | refine keep_far ?_ GW249.out _) | exact HK.out)⟩, ⟨by repeat (first | (with_reducible first | exact HB.out | apply bwA | apply bwN | apply bwD | refine below_set ?_ (IsS119.ge HI0.out) | refine below_set ?_ GE249.out) | exact HB.out)⟩⟩
       case rest =>
        clear HC65
        try clear c1
        try clear c2
        try clear p2
        try clear c3
        try clear c4
        try clear c5
        try clear c6
        try clear p6
        try clear c10
        try clear c11
        try clear c11b0
        try clear c19
        try clear c21
        try clear c21b0
        try clear c21b1
        try clear c21b2
        try clear c24
        try clear c28
        try clear c30
        try clear c30b0
        try clear c31
        try clear c34
        try clear c34b0
        try clear c34b1
        try clear c36
        try clear c40
        try clear c41
        try clear c43
        try clear c51
        try clear c51b0
        try clear c51b1
        try clear c52
        try clear c56
        try clear c57
        try clear c58
        try clear c60
        try clear p64
        try clear c66
        try clear c66b0
        try clear hcz20_0
        try clear hcz20_1
        try clear hcz20_2
        try clear hcz20_3
        try clear hcz29_0
        try clear hcz29_1
        try clear hcz29_2
        try clear hcz29_3
        try clear hcz37_0
        try clear hcz37_1
        try clear hcz37_2
        try clear hcz37_3
        try clear hcz44_0
        try clear hcz44_1
        try clear hcz44_2
        try clear hcz44_3
        try clear hcz47_0
        try clear hcz47_1
        try clear hcz47_2
        try clear hcz47_3
        try clear hcz53_0
        try clear hcz53_1
        try clear hcz53_2
        try clear hcz53_3
        try clear hcz59_0
        try clear hcz59_1
        try clear hcz59_2
        try clear hcz59_3
        try clear hcz62_0
        try clear hcz62_1
        try clear hcz62_2
        try clear hcz62_3
        try clear hfz20_0
        try clear hfz20_1
        try clear hfz20_2
        try clear hfz20_3
        try clear hfz29_0
        try clear hfz29_1
        try clear hfz29_2
        try clear hfz29_3
        try clear hfz37_0
        try clear hfz37_1
        try clear hfz37_2
        try clear hfz37_3
        try clear hfz44_0
        try clear hfz44_1
        try clear hfz44_2
        try clear hfz44_3
        try clear hfz47_0
        try clear hfz47_1
        try clear hfz47_2
        try clear hfz47_3
        try clear hfz53_0
        try clear hfz53_1
        try clear hfz53_2
        try clear hfz53_3
        try clear hfz59_0
        try clear hfz59_1
        try clear hfz59_2
        try clear hfz59_3
        try clear hfz62_0
        try clear hfz62_1
        try clear hfz62_2
        try clear hfz62_3
        try clear p2
        try clear p6
        obtain ⟨kq, x14_64, rfl, HA, HJ64, HO_9, HO_10, BK249, HI0, HK, HB⟩ := hcut
        cases kq with
        | zero => exact absurd HA.out (by simp [spec_l1Terms.j3])
        | succ kj64 =>
         have H := HA.out
         clear HA
         simp only [spec_l1Terms.j3] at H
         replace H := Option.bind_eq_some_iff.mp H
         obtain ⟨⟨t268, t269⟩, A670, H⟩ := H
         replace H : ((spec_l1Pick.f kj64 s0_0 t269 x10_1 x14_64).bind fun bt270 => ((spec_l1One.f t247).bind fun t272 => (if t272 = true then ((spec_l1Kind.f kj64 t247 0 t268 t268 x10_1 a1).bind fun t273 => (if t273 = 0 then (spec_l1Terms.l0 kj64 a1 a2 x9_1 x10_1 (wrap64 (x11_1 - 1)) s0_0 bt270.2) else (if x9_1.length < 4398046511104 then (if x10_1.length < 17592186044416 then (spec_l1Terms.l0 kj64 a1 a2 (x9_1 ++ [(⟨t247, 0, t268, t268⟩ : S73)]) (x10_1 ++ [t273]) (wrap64 (x11_1 - 1)) s0_0 bt270.2) else (none)) else (none)))) else ((spec_l1Kind.f kj64 t247 0 t268 bt270.1 x10_1 a1).bind fun t280 => (if t280 = 0 then (spec_l1Terms.l0 kj64 a1 a2 x9_1 x10_1 (wrap64 (x11_1 - 1)) s0_0 bt270.2) else (if x9_1.length < 4398046511104 then (if x10_1.length < 17592186044416 then (spec_l1Terms.l0 kj64 a1 a2 (x9_1 ++ [(⟨t247, 0, t268, bt270.1⟩ : S73)]) (x10_1 ++ [t280]) (wrap64 (x11_1 - 1)) s0_0 bt270.2) else (none)) else (none))))))) = some (r1, r2) := H
         have A67 := Aside0.mk A670
         clear A670
         replace H := Option.bind_eq_some_iff.mp H
         obtain ⟨⟨t270, t271⟩, A680, H⟩ := H
         replace H : ((spec_l1One.f t247).bind fun t272 => (if t272 = true then ((spec_l1Kind.f kj64 t247 0 t268 t268 x10_1 a1).bind fun t273 => (if t273 = 0 then (spec_l1Terms.l0 kj64 a1 a2 x9_1 x10_1 (wrap64 (x11_1 - 1)) s0_0 t271) else (if x9_1.length < 4398046511104 then (if x10_1.length < 17592186044416 then (spec_l1Terms.l0 kj64 a1 a2 (x9_1 ++ [(⟨t247, 0, t268, t268⟩ : S73)]) (x10_1 ++ [t273]) (wrap64 (x11_1 - 1)) s0_0 t271) else (none)) else (none)))) else ((spec_l1Kind.f kj64 t247 0 t268 t270 x10_1 a1).bind fun t280 => (if t280 = 0 then (spec_l1Terms.l0 kj64 a1 a2 x9_1 x10_1 (wrap64 (x11_1 - 1)) s0_0 t271) else (if x9_1.length < 4398046511104 then (if x10_1.length < 17592186044416 then (spec_l1Terms.l0 kj64 a1 a2 (x9_1 ++ [(⟨t247, 0, t268, t270⟩ : S73)]) (x10_1 ++ [t280]) (wrap64 (x11_1 - 1)) s0_0 t271) else (none)) else (none)))))) = some (r1, r2) := H
         have A68 := Aside0.mk A680
         clear A680
         replace H := Option.bind_eq_some_iff.mp H
         obtain ⟨t272, A690, H⟩ := H
         replace H : (if t272 = true then ((spec_l1Kind.f kj64 t247 0 t268 t268 x10_1 a1).bind fun t273 => (if t273 = 0 then (spec_l1Terms.l0 kj64 a1 a2 x9_1 x10_1 (wrap64 (x11_1 - 1)) s0_0 t271) else (if x9_1.length < 4398046511104 then (if x10_1.length < 17592186044416 then (spec_l1Terms.l0 kj64 a1 a2 (x9_1 ++ [(⟨t247, 0, t268, t268⟩ : S73)]) (x10_1 ++ [t273]) (wrap64 (x11_1 - 1)) s0_0 t271) else (none)) else (none)))) else ((spec_l1Kind.f kj64 t247 0 t268 t270 x10_1 a1).bind fun t280 => (if t280 = 0 then (spec_l1Terms.l0 kj64 a1 a2 x9_1 x10_1 (wrap64 (x11_1 - 1)) s0_0 t271) else (if x9_1.length < 4398046511104 then (if x10_1.length < 17592186044416 then (spec_l1Terms.l0 kj64 a1 a2 (x9_1 ++ [(⟨t247, 0, t268, t270⟩ : S73)]) (x10_1 ++ [t280]) (wrap64 (x11_1 - 1)) s0_0 t271) else (none)) else (none))))) = some (r1, r2) := H
         have A69 := Aside0.mk A690
         clear A690
         by_cases c70 : t272 = true
         ·subst c70
          have H1 : ((spec_l1Kind.f kj64 t247 0 t268 t268 x10_1 a1).bind fun t273 => (if t273 = 0 then (spec_l1Terms.l0 kj64 a1 a2 x9_1 x10_1 (wrap64 (x11_1 - 1)) s0_0 t271) else (if x9_1.length < 4398046511104 then (if x10_1.length < 17592186044416 then (spec_l1Terms.l0 kj64 a1 a2 (x9_1 ++ [(⟨t247, 0, t268, t268⟩ : S73)]) (x10_1 ++ [t273]) (wrap64 (x11_1 - 1)) s0_0 t271) else (none)) else (none)))) = some (r1, r2) := by rw [if_pos rfl] at H; exact H
          clear H
          have H := H1
          clear H1
          replace H := Option.bind_eq_some_iff.mp H
          obtain ⟨t273, A710, H⟩ := H
          replace H : (if t273 = 0 then (spec_l1Terms.l0 kj64 a1 a2 x9_1 x10_1 (wrap64 (x11_1 - 1)) s0_0 t271) else (if x9_1.length < 4398046511104 then (if x10_1.length < 17592186044416 then (spec_l1Terms.l0 kj64 a1 a2 (x9_1 ++ [(⟨t247, 0, t268, t268⟩ : S73)]) (x10_1 ++ [t273]) (wrap64 (x11_1 - 1)) s0_0 t271) else (none)) else (none))) = some (r1, r2) := H
          have A71 := Aside0.mk A710
          clear A710
          by_cases c72 : t273 = 0
          ·rw [if_pos c72] at H
           have c72b0 : (t273 == 0) = true := beq_iff_eq.mpr c72
           have c72b1 : (t273 != 0) = false := bne_eq_false_iff_eq.mpr c72
           clear c72
           have H' := Aside0.mk H
           clear H
           obtain ⟨Ao73, co73, eo73⟩ := Kd.R_slice HO_10.out
           subst eo73
           go_wp2_with (first | ((with_reducible refine gate_callee (f := 108) rfl ?_); refine goesL_ (some 58) rfl rfl Try.func108 (by kernel_rfl) rfl #[.pointer (some ⟨g, 0, none⟩), .slice Ao73 x10_1.length co73, .int .i64 x14_64] rfl (by (try simp only [List.map_toArray, List.map_cons, List.map_nil]); first | done | rfl | (simp only [List.length_drop, List.length_take]; rfl)) ?_; (with_reducible refine (spec_l1Pick.calls kj64 g s0_0 t248 _ _ x10_1 x14_64 t268 t269 w0 _ ?side1 ?side2 ?side3 ?side4 ?side5 A67.out).mono ?_); (case side1 => repeat (first | (with_reducible first | exact HI0.out | apply IsS119.alloc | apply IsS119.drewN | apply IsS119.drew | apply IsS119.set_1 | refine IsS119.far ?_ NB0_249.out _) | exact HI0.out)); (case side2 => repeat (first | (with_reducible first | exact HB.out | apply bwA | apply bwN | apply bwD | refine below_set ?_ (IsS119.ge HI0.out) | refine below_set ?_ GE249.out) | exact HB.out)); (case side3 => repeat (first | exact (Kd.R_reads' HO_10.out).2.2 | (with_reducible refine Kd.C_alloc ?_ _) | (with_reducible refine Kd.C_drewN ?_ _) | (with_reducible refine Kd.C_drew ?_))); (case side4 => exact (Kd.R_reads' HO_10.out).2.1); (case side5 => exact far_slice (IsS119.own_ne HI0.out HO_10.out (by decide))); rintro e w74 ⟨rfl, hi, hb, hk⟩; refine ⟨_, rfl, ?_⟩; have n0_ := Aside0.mk (Kd.R_mono (Kd.R_keep (IsS119.apart (show IsS119 w0 _ g s0_0 t248 from by repeat (first | (with_reducible first | exact HI0.out | apply IsS119.alloc | apply IsS119.drewN | apply IsS119.drew | apply IsS119.set_1 | refine IsS119.far ?_ NB0_249.out _) | exact HI0.out)) (by (with_reducible repeat (first | apply Kd.R_alloc | apply Kd.R_drewN | apply Kd.R_drew)); exact HO_9.out) (by decide)) hk (fun _ h => h.2)) (fun _ h => h.1)); have n1_ := Aside0.mk (Kd.R_mono (Kd.R_keep (IsS119.apart (show IsS119 w0 _ g s0_0 t248 from by repeat (first | (with_reducible first | exact HI0.out | apply IsS119.alloc | apply IsS119.drewN | apply IsS119.drew | apply IsS119.set_1 | refine IsS119.far ?_ NB0_249.out _) | exact HI0.out)) (by (with_reducible repeat (first | apply Kd.R_alloc | apply Kd.R_drewN | apply Kd.R_drew)); exact HO_10.out) (by decide)) hk (fun _ h => h.2)) (fun _ h => h.1)); have n2_ := Aside0.mk (KeepBut.blk hk (g' := gb249) (o := .cells #[.int .i64 t247, .int .i64 0, .int .i64 0, .int .i64 0] 73 (0, 0)) (by (with_reducible repeat (first | refine blk_drewN ?_ _ | refine blk_drew ?_ | refine blk_alloc ?_ _)); exact BK249.out) NB249_0.out (by simp)); have n3_ := Aside0.mk (KeepBut.trans (by repeat (first | (with_reducible first | exact HK.out | apply KeepBut.set_ | apply keep_drewN | apply keep_drew | apply keep_alloc | refine keep_far ?_ GW249.out _) | exact HK.out)) hk (.inl rfl)); have n4_ := Aside0.mk (hb); have n5_ := Aside0.mk (hi); clear HO_9; clear HO_10; clear BK249; clear HK; clear HB; clear HI0; have HO_9 := n0_; have HO_10 := n1_; have BK249 := n2_; have HK := n3_; have HB := n4_; have HI0 := n5_; clear n0_ n1_ n2_ n3_ n4_ n5_; (try clear hb); (try clear hb2); (try clear hk); (try clear hi); have hnb75 := NB249_0.out; have hnc75 := NB0_249.out; have hcz76_0 : w74.cell? ⟨gb249, 0, none⟩ = some (.int .i64 t247) := (blk_cell BK249.out 0).trans rfl; have hcz76_1 : w74.cell? ⟨gb249, 1, none⟩ = some (.int .i64 0) := (blk_cell BK249.out 1).trans rfl; have hcz76_2 : w74.cell? ⟨gb249, 2, none⟩ = some (.int .i64 0) := (blk_cell BK249.out 2).trans rfl; have hcz76_3 : w74.cell? ⟨gb249, 3, none⟩ = some (.int .i64 0) := (blk_cell BK249.out 3).trans rfl; have hfz76_0 := blk_frozen BK249.out 0; have hfz76_1 := blk_frozen BK249.out 1; have hfz76_2 := blk_frozen BK249.out 2; have hfz76_3 := blk_frozen BK249.out 3) | ((with_reducible refine gate_callee (f := 108) rfl ?_); refine goesL_ (some 63) rfl rfl Try.func108 (by kernel_rfl) rfl #[.pointer (some ⟨g, 0, none⟩), .slice Ao73 x10_1.length co73, .int .i64 x14_64] rfl (by (try simp only [List.map_toArray, List.map_cons, List.map_nil]); first | done | rfl | (simp only [List.length_drop, List.length_take]; rfl)) ?_; (with_reducible refine (spec_l1Pick.calls kj64 g s0_0 t269 _ _ x10_1 x14_64 t270 t271 w0 _ ?side1 ?side2 ?side3 ?side4 ?side5 A68.out).mono ?_); (case side1 => repeat (first | (with_reducible first | exact HI0.out | apply IsS119.alloc | apply IsS119.drewN | apply IsS119.drew | apply IsS119.set_1 | refine IsS119.far ?_ NB0_249.out _) | exact HI0.out)); (case side2 => repeat (first | (with_reducible first | exact HB.out | apply bwA | apply bwN | apply bwD | refine below_set ?_ (IsS119.ge HI0.out) | refine below_set ?_ GE249.out) | exact HB.out)); (case side3 => refine (Kd.R_reads' (e := 3) (base := w.heap.size) (ok := fun k_ => True) (n := x10_1.length) (c := co73) ?_).2.2; exact (by (with_reducible repeat (first | apply Kd.R_alloc | apply Kd.R_drewN | apply Kd.R_drew)); exact (Kd.R_mono (Kd.R_far (p := ⟨gb249, 2, none⟩) (Kd.R_types HO_10.out BK249.out (by decide)) (fun _ hk => hk.2) (.int .i64 t268)) (fun _ h_ => h_.1)))); (case side4 => exact (Kd.R_reads' HO_10.out).2.1); (case side5 => exact far_slice (IsS119.own_ne HI0.out HO_10.out (by decide))); rintro e w77 ⟨rfl, hi, hb, hk⟩; refine ⟨_, rfl, ?_⟩; have n0_ := Aside0.mk (Kd.R_mono (Kd.R_keep (IsS119.apart (show IsS119 w0 _ g s0_0 t269 from by repeat (first | (with_reducible first | exact HI0.out | apply IsS119.alloc | apply IsS119.drewN | apply IsS119.drew | apply IsS119.set_1 | refine IsS119.far ?_ NB0_249.out _) | exact HI0.out)) (by (with_reducible repeat (first | apply Kd.R_alloc | apply Kd.R_drewN | apply Kd.R_drew)); exact (Kd.R_mono (Kd.R_far (p := ⟨gb249, 2, none⟩) (Kd.R_mono HO_9.out (fun k_ hk => (⟨hk, hk⟩ : _ ∧ k_ ≠ gb249))) (fun _ hk => hk.2) (.int .i64 t268)) (fun _ h_ => h_.1))) (by decide)) hk (fun _ h => h.2)) (fun _ h => h.1)); have n1_ := Aside0.mk (Kd.R_mono (Kd.R_keep (IsS119.apart (show IsS119 w0 _ g s0_0 t269 from by repeat (first | (with_reducible first | exact HI0.out | apply IsS119.alloc | apply IsS119.drewN | apply IsS119.drew | apply IsS119.set_1 | refine IsS119.far ?_ NB0_249.out _) | exact HI0.out)) (by (with_reducible repeat (first | apply Kd.R_alloc | apply Kd.R_drewN | apply Kd.R_drew)); exact (Kd.R_mono (Kd.R_far (p := ⟨gb249, 2, none⟩) (Kd.R_types HO_10.out BK249.out (by decide)) (fun _ hk => hk.2) (.int .i64 t268)) (fun _ h_ => h_.1))) (by decide)) hk (fun _ h => h.2)) (fun _ h => h.1)); have n2_ := Aside0.mk (KeepBut.blk hk (g' := gb249) (o := .cells #[.int .i64 t247, .int .i64 0, .int .i64 t268, .int .i64 0] 73 (0, 0)) (by (with_reducible repeat (first | refine blk_drewN ?_ _ | refine blk_drew ?_ | refine blk_alloc ?_ _)); refine blk_put (cs := #[.int .i64 t247, .int .i64 0, .int .i64 0, .int .i64 0]) ?_ 2 _ rfl; (with_reducible repeat (first | refine blk_drewN ?_ _ | refine blk_drew ?_ | refine blk_alloc ?_ _)); exact BK249.out) NB249_0.out (by simp)); have n3_ := Aside0.mk (KeepBut.trans (by repeat (first | (with_reducible first | exact HK.out | apply KeepBut.set_ | apply keep_drewN | apply keep_drew | apply keep_alloc | refine keep_far ?_ GW249.out _) | exact HK.out)) hk (.inl rfl)); have n4_ := Aside0.mk (hb); have n5_ := Aside0.mk (hi); clear HO_9; clear HO_10; clear BK249; clear HK; clear HB; clear HI0; have HO_9 := n0_; have HO_10 := n1_; have BK249 := n2_; have HK := n3_; have HB := n4_; have HI0 := n5_; clear n0_ n1_ n2_ n3_ n4_ n5_; (try clear hb); (try clear hb2); (try clear hk); (try clear hi); have hcz78_0 : w77.cell? ⟨gb249, 0, none⟩ = some (.int .i64 t247) := (blk_cell BK249.out 0).trans rfl; have hcz78_1 : w77.cell? ⟨gb249, 1, none⟩ = some (.int .i64 0) := (blk_cell BK249.out 1).trans rfl; have hcz78_2 : w77.cell? ⟨gb249, 2, none⟩ = some (.int .i64 t268) := (blk_cell BK249.out 2).trans rfl; have hcz78_3 : w77.cell? ⟨gb249, 3, none⟩ = some (.int .i64 0) := (blk_cell BK249.out 3).trans rfl; have hfz78_0 := blk_frozen BK249.out 0; have hfz78_1 := blk_frozen BK249.out 1; have hfz78_2 := blk_frozen BK249.out 2; have hfz78_3 := blk_frozen BK249.out 3) | ((with_reducible refine gate_callee (f := 70) rfl ?_); refine goesL_ (some 66) rfl rfl Try.func70 (by kernel_rfl) rfl #[.int .i64 t247] rfl (by (try simp only [List.map_toArray, List.map_cons, List.map_nil]); first | done | rfl | (simp only [List.length_drop, List.length_take]; rfl)) ?_; (with_reducible refine (spec_l1One.calls t247 true _ A69.out).mono ?_); rintro e w' ⟨rfl, ⟨nd, rfl⟩⟩; refine ⟨_, rfl, ?_⟩) | ((with_reducible refine gate_callee (f := 106) rfl ?_); refine goesL_ (some 73) rfl rfl Try.func106 (by kernel_rfl) rfl #[.agg #[.int .i64 t247, .int .i64 0, .int .i64 t268, .int .i64 t268], .slice Ao73 x10_1.length co73, .int .i64 a1] rfl (by (try simp only [List.map_toArray, List.map_cons, List.map_nil]); first | done | rfl | (simp only [List.length_drop, List.length_take]; rfl)) ?_; (with_reducible refine (spec_l1Kind.calls kj64 t247 0 t268 t268 _ _ x10_1 a1 t273 _ ?side1 ?side2 A71.out).mono ?_); (case side1 => refine (Kd.R_reads' (e := 3) (base := w.heap.size) (ok := fun k_ => True) (n := x10_1.length) (c := co73) ?_).2.2; exact (by (with_reducible repeat (first | apply Kd.R_alloc | apply Kd.R_drewN | apply Kd.R_drew)); exact (Kd.R_mono (Kd.R_far (p := ⟨gb249, 3, none⟩) (Kd.R_drewN (Kd.R_far (p := ⟨gb249, 3, none⟩) (Kd.R_types HO_10.out BK249.out (by decide)) (fun _ hk => hk.2) (.int .i64 t270)) _) (fun _ hk => hk.2) (.int .i64 t268)) (fun _ h_ => h_.1)))); (case side2 => exact (Kd.R_reads' HO_10.out).2.1); rintro e w79 ⟨rfl, hb⟩; refine ⟨_, rfl, ?_⟩; have n0_ := Aside0.mk (Kd.R_below (by (with_reducible repeat (first | apply Kd.R_alloc | apply Kd.R_drewN | apply Kd.R_drew)); exact (Kd.R_mono (Kd.R_far (p := ⟨gb249, 3, none⟩) (Kd.R_drewN (Kd.R_far (p := ⟨gb249, 3, none⟩) (Kd.R_mono HO_9.out (fun k_ hk => (⟨hk, hk⟩ : _ ∧ k_ ≠ gb249))) (fun _ hk => hk.2) (.int .i64 t270)) _) (fun _ hk => hk.2) (.int .i64 t268)) (fun _ h_ => h_.1))) hb); have n1_ := Aside0.mk (Kd.R_below (by (with_reducible repeat (first | apply Kd.R_alloc | apply Kd.R_drewN | apply Kd.R_drew)); exact (Kd.R_mono (Kd.R_far (p := ⟨gb249, 3, none⟩) (Kd.R_drewN (Kd.R_far (p := ⟨gb249, 3, none⟩) (Kd.R_types HO_10.out BK249.out (by decide)) (fun _ hk => hk.2) (.int .i64 t270)) _) (fun _ hk => hk.2) (.int .i64 t268)) (fun _ h_ => h_.1))) hb); have n2_ := Aside0.mk (blk_below (g := gb249) (o := .cells #[.int .i64 t247, .int .i64 0, .int .i64 t268, .int .i64 t268] 73 (0, 0)) (by (with_reducible repeat (first | refine blk_drewN ?_ _ | refine blk_drew ?_ | refine blk_alloc ?_ _)); refine blk_put (cs := #[.int .i64 t247, .int .i64 0, .int .i64 t268, .int .i64 t270]) ?_ 3 _ rfl; (with_reducible repeat (first | refine blk_drewN ?_ _ | refine blk_drew ?_ | refine blk_alloc ?_ _)); refine blk_put (cs := #[.int .i64 t247, .int .i64 0, .int .i64 t268, .int .i64 0]) ?_ 3 _ rfl; (with_reducible repeat (first | refine blk_drewN ?_ _ | refine blk_drew ?_ | refine blk_alloc ?_ _)); exact BK249.out) hb); have n3_ := Aside0.mk (IsS119.below (show IsS119 w0 _ g s0_0 t271 from by repeat (first | (with_reducible first | exact HI0.out | apply IsS119.alloc | apply IsS119.drewN | apply IsS119.drew | apply IsS119.set_1 | refine IsS119.far ?_ NB0_249.out _) | exact HI0.out)) hb); have n4_ := Aside0.mk (KeepBut.trans (by repeat (first | (with_reducible first | exact HK.out | apply KeepBut.set_ | apply keep_drewN | apply keep_drew | apply keep_alloc | refine keep_far ?_ GW249.out _) | exact HK.out)) (KeepBut.of_below hb g none) (.inl rfl)); have n5_ := Aside0.mk (below_step (by repeat (first | (with_reducible first | exact HB.out | apply bwA | apply bwN | apply bwD | refine below_set ?_ (IsS119.ge HI0.out) | refine below_set ?_ GE249.out) | exact HB.out)) hb); clear HO_9; clear HO_10; clear BK249; clear HI0; clear HK; clear HB; have HO_9 := n0_; have HO_10 := n1_; have BK249 := n2_; have HI0 := n3_; have HK := n4_; have HB := n5_; clear n0_ n1_ n2_ n3_ n4_ n5_; (try clear hb); (try clear hb2); (try clear hk); (try clear hi)))
           go_roundg kj64
           case measure => have := HK1.out; have := HJ12.out; have := HJ64.out; omega
           case rel => exact ⟨(x9_1), (x10_1), (wrap64 (x11_1 - 1)), (t271), (by first | rfl | (simp; done) | (simp [*]; done)), H', ⟨by have := HK1.out; have := HJ12.out; have := HJ64.out; omega⟩, ⟨by (with_reducible repeat (first | apply Kd.R_alloc | apply Kd.R_drewN | apply Kd.R_drew)); exact Kd.R_mono HO_9.out (fun _ hk => trivial)⟩, ⟨by (with_reducible repeat (first | apply Kd.R_alloc | apply Kd.R_drewN | apply Kd.R_drew)); exact HO_10.out⟩, ⟨by repeat (first | (with_reducible first | exact HI0.out | apply IsS119.alloc | apply IsS119.drewN | apply IsS119.drew | apply IsS119.set_1 | refine IsS119.far ?_ NB0_249.out _) | exact HI0.out)⟩, ⟨by repeat (first | (with_reducible first | exact HK.out | apply KeepBut.set_ | apply keep_drewN | apply keep_drew | apply keep_alloc | refine keep_far ?_ GW249.out _) | exact HK.out)⟩, ⟨by repeat (first | (with_reducible first | exact HB.out | apply bwA | apply bwN | apply bwD | refine below_set ?_ (IsS119.ge HI0.out) | refine below_set ?_ GE249.out) | exact HB.out)⟩⟩
          ·rw [if_neg c72] at H
           have c72b0 : (t273 == 0) = false := beq_eq_false_iff_ne.mpr c72
           have c72b1 : (t273 != 0) = true := bne_iff_ne.mpr c72
           by_cases c80 : x9_1.length < 4398046511104
           ·rw [if_pos c80] at H
            have LMc80 := Aside0.mk c80
            clear c80
            obtain ⟨y274, hy274⟩ : ∃ y_ : List (S73), y_ = (x9_1 ++ [(⟨t247, 0, t268, t268⟩ : S73)]) := ⟨_, rfl⟩
            replace H : (if x10_1.length < 17592186044416 then (spec_l1Terms.l0 kj64 a1 a2 y274 (x10_1 ++ [t273]) (wrap64 (x11_1 - 1)) s0_0 t271) else (none)) = some (r1, r2) := by first | (rw [hy274]; with_reducible exact H) | (have H2_ := (Option.bind_some _ _).symm.trans H; rw [hy274]; with_reducible exact H2_) | (have H2_ := (Option.bind_some _ _).symm.trans H; with_reducible exact H2_) | with_reducible exact H | (rw [hy274]; exact H) | exact H
            have Ny274 := Aside0.mk hy274
            clear hy274
            by_cases c81 : x10_1.length < 17592186044416
            ·rw [if_pos c81] at H
             have LMc81 := Aside0.mk c81
             clear c81
             obtain ⟨y277, hy277⟩ : ∃ y_ : List Int, y_ = (x10_1 ++ [t273]) := ⟨_, rfl⟩
             replace H : (spec_l1Terms.l0 kj64 a1 a2 y274 y277 (wrap64 (x11_1 - 1)) s0_0 t271) = some (r1, r2) := by first | (rw [hy277]; with_reducible exact H) | (have H2_ := (Option.bind_some _ _).symm.trans H; rw [hy277]; with_reducible exact H2_) | (have H2_ := (Option.bind_some _ _).symm.trans H; with_reducible exact H2_) | with_reducible exact H | (rw [hy277]; exact H) | exact H
             have Ny277 := Aside0.mk hy277
             clear hy277
             have H' := Aside0.mk H
             clear H
             obtain ⟨Ao82, co82, eo82⟩ := Kd.R_slice HO_10.out
             subst eo82
             go_wp2_with (first | ((with_reducible refine gate_callee (f := 108) rfl ?_); refine goesL_ (some 58) rfl rfl Try.func108 (by kernel_rfl) rfl #[.pointer (some ⟨g, 0, none⟩), .slice Ao82 x10_1.length co82, .int .i64 x14_64] rfl (by (try simp only [List.map_toArray, List.map_cons, List.map_nil]); first | done | rfl | (simp only [List.length_drop, List.length_take]; rfl)) ?_; (with_reducible refine (spec_l1Pick.calls kj64 g s0_0 t248 _ _ x10_1 x14_64 t268 t269 w0 _ ?side1 ?side2 ?side3 ?side4 ?side5 A67.out).mono ?_); (case side1 => repeat (first | (with_reducible first | exact HI0.out | apply IsS119.alloc | apply IsS119.drewN | apply IsS119.drew | apply IsS119.set_1 | refine IsS119.far ?_ NB0_249.out _) | exact HI0.out)); (case side2 => repeat (first | (with_reducible first | exact HB.out | apply bwA | apply bwN | apply bwD | refine below_set ?_ (IsS119.ge HI0.out) | refine below_set ?_ GE249.out) | exact HB.out)); (case side3 => repeat (first | exact (Kd.R_reads' HO_10.out).2.2 | (with_reducible refine Kd.C_alloc ?_ _) | (with_reducible refine Kd.C_drewN ?_ _) | (with_reducible refine Kd.C_drew ?_))); (case side4 => exact (Kd.R_reads' HO_10.out).2.1); (case side5 => exact far_slice (IsS119.own_ne HI0.out HO_10.out (by decide))); rintro e w83 ⟨rfl, hi, hb, hk⟩; refine ⟨_, rfl, ?_⟩; have n0_ := Aside0.mk (Kd.R_mono (Kd.R_keep (IsS119.apart (show IsS119 w0 _ g s0_0 t248 from by repeat (first | (with_reducible first | exact HI0.out | apply IsS119.alloc | apply IsS119.drewN | apply IsS119.drew | apply IsS119.set_1 | refine IsS119.far ?_ NB0_249.out _) | exact HI0.out)) (by (with_reducible repeat (first | apply Kd.R_alloc | apply Kd.R_drewN | apply Kd.R_drew)); exact HO_9.out) (by decide)) hk (fun _ h => h.2)) (fun _ h => h.1)); have n1_ := Aside0.mk (Kd.R_mono (Kd.R_keep (IsS119.apart (show IsS119 w0 _ g s0_0 t248 from by repeat (first | (with_reducible first | exact HI0.out | apply IsS119.alloc | apply IsS119.drewN | apply IsS119.drew | apply IsS119.set_1 | refine IsS119.far ?_ NB0_249.out _) | exact HI0.out)) (by (with_reducible repeat (first | apply Kd.R_alloc | apply Kd.R_drewN | apply Kd.R_drew)); exact HO_10.out) (by decide)) hk (fun _ h => h.2)) (fun _ h => h.1)); have n2_ := Aside0.mk (KeepBut.blk hk (g' := gb249) (o := .cells #[.int .i64 t247, .int .i64 0, .int .i64 0, .int .i64 0] 73 (0, 0)) (by (with_reducible repeat (first | refine blk_drewN ?_ _ | refine blk_drew ?_ | refine blk_alloc ?_ _)); exact BK249.out) NB249_0.out (by simp)); have n3_ := Aside0.mk (KeepBut.trans (by repeat (first | (with_reducible first | exact HK.out | apply KeepBut.set_ | apply keep_drewN | apply keep_drew | apply keep_alloc | refine keep_far ?_ GW249.out _) | exact HK.out)) hk (.inl rfl)); have n4_ := Aside0.mk (hb); have n5_ := Aside0.mk (hi); clear HO_9; clear HO_10; clear BK249; clear HK; clear HB; clear HI0; have HO_9 := n0_; have HO_10 := n1_; have BK249 := n2_; have HK := n3_; have HB := n4_; have HI0 := n5_; clear n0_ n1_ n2_ n3_ n4_ n5_; (try clear hb); (try clear hb2); (try clear hk); (try clear hi); have hnb84 := NB249_0.out; have hnc84 := NB0_249.out; have hcz85_0 : w83.cell? ⟨gb249, 0, none⟩ = some (.int .i64 t247) := (blk_cell BK249.out 0).trans rfl; have hcz85_1 : w83.cell? ⟨gb249, 1, none⟩ = some (.int .i64 0) := (blk_cell BK249.out 1).trans rfl; have hcz85_2 : w83.cell? ⟨gb249, 2, none⟩ = some (.int .i64 0) := (blk_cell BK249.out 2).trans rfl; have hcz85_3 : w83.cell? ⟨gb249, 3, none⟩ = some (.int .i64 0) := (blk_cell BK249.out 3).trans rfl; have hfz85_0 := blk_frozen BK249.out 0; have hfz85_1 := blk_frozen BK249.out 1; have hfz85_2 := blk_frozen BK249.out 2; have hfz85_3 := blk_frozen BK249.out 3) | ((with_reducible refine gate_callee (f := 108) rfl ?_); refine goesL_ (some 63) rfl rfl Try.func108 (by kernel_rfl) rfl #[.pointer (some ⟨g, 0, none⟩), .slice Ao82 x10_1.length co82, .int .i64 x14_64] rfl (by (try simp only [List.map_toArray, List.map_cons, List.map_nil]); first | done | rfl | (simp only [List.length_drop, List.length_take]; rfl)) ?_; (with_reducible refine (spec_l1Pick.calls kj64 g s0_0 t269 _ _ x10_1 x14_64 t270 t271 w0 _ ?side1 ?side2 ?side3 ?side4 ?side5 A68.out).mono ?_); (case side1 => repeat (first | (with_reducible first | exact HI0.out | apply IsS119.alloc | apply IsS119.drewN | apply IsS119.drew | apply IsS119.set_1 | refine IsS119.far ?_ NB0_249.out _) | exact HI0.out)); (case side2 => repeat (first | (with_reducible first | exact HB.out | apply bwA | apply bwN | apply bwD | refine below_set ?_ (IsS119.ge HI0.out) | refine below_set ?_ GE249.out) | exact HB.out)); (case side3 => refine (Kd.R_reads' (e := 3) (base := w.heap.size) (ok := fun k_ => True) (n := x10_1.length) (c := co82) ?_).2.2; exact (by (with_reducible repeat (first | apply Kd.R_alloc | apply Kd.R_drewN | apply Kd.R_drew)); exact (Kd.R_mono (Kd.R_far (p := ⟨gb249, 2, none⟩) (Kd.R_types HO_10.out BK249.out (by decide)) (fun _ hk => hk.2) (.int .i64 t268)) (fun _ h_ => h_.1)))); (case side4 => exact (Kd.R_reads' HO_10.out).2.1); (case side5 => exact far_slice (IsS119.own_ne HI0.out HO_10.out (by decide))); rintro e w86 ⟨rfl, hi, hb, hk⟩; refine ⟨_, rfl, ?_⟩; have n0_ := Aside0.mk (Kd.R_mono (Kd.R_keep (IsS119.apart (show IsS119 w0 _ g s0_0 t269 from by repeat (first | (with_reducible first | exact HI0.out | apply IsS119.alloc | apply IsS119.drewN | apply IsS119.drew | apply IsS119.set_1 | refine IsS119.far ?_ NB0_249.out _) | exact HI0.out)) (by (with_reducible repeat (first | apply Kd.R_alloc | apply Kd.R_drewN | apply Kd.R_drew)); exact (Kd.R_mono (Kd.R_far (p := ⟨gb249, 2, none⟩) (Kd.R_mono HO_9.out (fun k_ hk => (⟨hk, hk⟩ : _ ∧ k_ ≠ gb249))) (fun _ hk => hk.2) (.int .i64 t268)) (fun _ h_ => h_.1))) (by decide)) hk (fun _ h => h.2)) (fun _ h => h.1)); have n1_ := Aside0.mk (Kd.R_mono (Kd.R_keep (IsS119.apart (show IsS119 w0 _ g s0_0 t269 from by repeat (first | (with_reducible first | exact HI0.out | apply IsS119.alloc | apply IsS119.drewN | apply IsS119.drew | apply IsS119.set_1 | refine IsS119.far ?_ NB0_249.out _) | exact HI0.out)) (by (with_reducible repeat (first | apply Kd.R_alloc | apply Kd.R_drewN | apply Kd.R_drew)); exact (Kd.R_mono (Kd.R_far (p := ⟨gb249, 2, none⟩) (Kd.R_types HO_10.out BK249.out (by decide)) (fun _ hk => hk.2) (.int .i64 t268)) (fun _ h_ => h_.1))) (by decide)) hk (fun _ h => h.2)) (fun _ h => h.1)); have n2_ := Aside0.mk (KeepBut.blk hk (g' := gb249) (o := .cells #[.int .i64 t247, .int .i64 0, .int .i64 t268, .int .i64 0] 73 (0, 0)) (by (with_reducible repeat (first | refine blk_drewN ?_ _ | refine blk_drew ?_ | refine blk_alloc ?_ _)); refine blk_put (cs := #[.int .i64 t247, .int .i64 0, .int .i64 0, .int .i64 0]) ?_ 2 _ rfl; (with_reducible repeat (first | refine blk_drewN ?_ _ | refine blk_drew ?_ | refine blk_alloc ?_ _)); exact BK249.out) NB249_0.out (by simp)); have n3_ := Aside0.mk (KeepBut.trans (by repeat (first | (with_reducible first | exact HK.out | apply KeepBut.set_ | apply keep_drewN | apply keep_drew | apply keep_alloc | refine keep_far ?_ GW249.out _) | exact HK.out)) hk (.inl rfl)); have n4_ := Aside0.mk (hb); have n5_ := Aside0.mk (hi); clear HO_9; clear HO_10; clear BK249; clear HK; clear HB; clear HI0; have HO_9 := n0_; have HO_10 := n1_; have BK249 := n2_; have HK := n3_; have HB := n4_; have HI0 := n5_; clear n0_ n1_ n2_ n3_ n4_ n5_; (try clear hb); (try clear hb2); (try clear hk); (try clear hi); have hcz87_0 : w86.cell? ⟨gb249, 0, none⟩ = some (.int .i64 t247) := (blk_cell BK249.out 0).trans rfl; have hcz87_1 : w86.cell? ⟨gb249, 1, none⟩ = some (.int .i64 0) := (blk_cell BK249.out 1).trans rfl; have hcz87_2 : w86.cell? ⟨gb249, 2, none⟩ = some (.int .i64 t268) := (blk_cell BK249.out 2).trans rfl; have hcz87_3 : w86.cell? ⟨gb249, 3, none⟩ = some (.int .i64 0) := (blk_cell BK249.out 3).trans rfl; have hfz87_0 := blk_frozen BK249.out 0; have hfz87_1 := blk_frozen BK249.out 1; have hfz87_2 := blk_frozen BK249.out 2; have hfz87_3 := blk_frozen BK249.out 3) | ((with_reducible refine gate_callee (f := 70) rfl ?_); refine goesL_ (some 66) rfl rfl Try.func70 (by kernel_rfl) rfl #[.int .i64 t247] rfl (by (try simp only [List.map_toArray, List.map_cons, List.map_nil]); first | done | rfl | (simp only [List.length_drop, List.length_take]; rfl)) ?_; (with_reducible refine (spec_l1One.calls t247 true _ A69.out).mono ?_); rintro e w' ⟨rfl, ⟨nd, rfl⟩⟩; refine ⟨_, rfl, ?_⟩) | ((with_reducible refine gate_callee (f := 106) rfl ?_); refine goesL_ (some 73) rfl rfl Try.func106 (by kernel_rfl) rfl #[.agg #[.int .i64 t247, .int .i64 0, .int .i64 t268, .int .i64 t268], .slice Ao82 x10_1.length co82, .int .i64 a1] rfl (by (try simp only [List.map_toArray, List.map_cons, List.map_nil]); first | done | rfl | (simp only [List.length_drop, List.length_take]; rfl)) ?_; (with_reducible refine (spec_l1Kind.calls kj64 t247 0 t268 t268 _ _ x10_1 a1 t273 _ ?side1 ?side2 A71.out).mono ?_); (case side1 => refine (Kd.R_reads' (e := 3) (base := w.heap.size) (ok := fun k_ => True) (n := x10_1.length) (c := co82) ?_).2.2; exact (by (with_reducible repeat (first | apply Kd.R_alloc | apply Kd.R_drewN | apply Kd.R_drew)); exact (Kd.R_mono (Kd.R_far (p := ⟨gb249, 3, none⟩) (Kd.R_drewN (Kd.R_far (p := ⟨gb249, 3, none⟩) (Kd.R_types HO_10.out BK249.out (by decide)) (fun _ hk => hk.2) (.int .i64 t270)) _) (fun _ hk => hk.2) (.int .i64 t268)) (fun _ h_ => h_.1)))); (case side2 => exact (Kd.R_reads' HO_10.out).2.1); rintro e w88 ⟨rfl, hb⟩; refine ⟨_, rfl, ?_⟩; have n0_ := Aside0.mk (Kd.R_below (by (with_reducible repeat (first | apply Kd.R_alloc | apply Kd.R_drewN | apply Kd.R_drew)); exact (Kd.R_mono (Kd.R_far (p := ⟨gb249, 3, none⟩) (Kd.R_drewN (Kd.R_far (p := ⟨gb249, 3, none⟩) (Kd.R_mono HO_9.out (fun k_ hk => (⟨hk, hk⟩ : _ ∧ k_ ≠ gb249))) (fun _ hk => hk.2) (.int .i64 t270)) _) (fun _ hk => hk.2) (.int .i64 t268)) (fun _ h_ => h_.1))) hb); have n1_ := Aside0.mk (Kd.R_below (by (with_reducible repeat (first | apply Kd.R_alloc | apply Kd.R_drewN | apply Kd.R_drew)); exact (Kd.R_mono (Kd.R_far (p := ⟨gb249, 3, none⟩) (Kd.R_drewN (Kd.R_far (p := ⟨gb249, 3, none⟩) (Kd.R_types HO_10.out BK249.out (by decide)) (fun _ hk => hk.2) (.int .i64 t270)) _) (fun _ hk => hk.2) (.int .i64 t268)) (fun _ h_ => h_.1))) hb); have n2_ := Aside0.mk (blk_below (g := gb249) (o := .cells #[.int .i64 t247, .int .i64 0, .int .i64 t268, .int .i64 t268] 73 (0, 0)) (by (with_reducible repeat (first | refine blk_drewN ?_ _ | refine blk_drew ?_ | refine blk_alloc ?_ _)); refine blk_put (cs := #[.int .i64 t247, .int .i64 0, .int .i64 t268, .int .i64 t270]) ?_ 3 _ rfl; (with_reducible repeat (first | refine blk_drewN ?_ _ | refine blk_drew ?_ | refine blk_alloc ?_ _)); refine blk_put (cs := #[.int .i64 t247, .int .i64 0, .int .i64 t268, .int .i64 0]) ?_ 3 _ rfl; (with_reducible repeat (first | refine blk_drewN ?_ _ | refine blk_drew ?_ | refine blk_alloc ?_ _)); exact BK249.out) hb); have n3_ := Aside0.mk (IsS119.below (show IsS119 w0 _ g s0_0 t271 from by repeat (first | (with_reducible first | exact HI0.out | apply IsS119.alloc | apply IsS119.drewN | apply IsS119.drew | apply IsS119.set_1 | refine IsS119.far ?_ NB0_249.out _) | exact HI0.out)) hb); have n4_ := Aside0.mk (KeepBut.trans (by repeat (first | (with_reducible first | exact HK.out | apply KeepBut.set_ | apply keep_drewN | apply keep_drew | apply keep_alloc | refine keep_far ?_ GW249.out _) | exact HK.out)) (KeepBut.of_below hb g none) (.inl rfl)); have n5_ := Aside0.mk (below_step (by repeat (first | (with_reducible first | exact HB.out | apply bwA | apply bwN | apply bwD | refine below_set ?_ (IsS119.ge HI0.out) | refine below_set ?_ GE249.out) | exact HB.out)) hb); clear HO_9; clear HO_10; clear BK249; clear HI0; clear HK; clear HB; have HO_9 := n0_; have HO_10 := n1_; have BK249 := n2_; have HI0 := n3_; have HK := n4_; have HB := n5_; clear n0_ n1_ n2_ n3_ n4_ n5_; (try clear hb); (try clear hb2); (try clear hk); (try clear hi); have hcz89_0 : w88.cell? ⟨gb249, 0, none⟩ = some (.int .i64 t247) := (blk_cell BK249.out 0).trans rfl; have hcz89_1 : w88.cell? ⟨gb249, 1, none⟩ = some (.int .i64 0) := (blk_cell BK249.out 1).trans rfl; have hcz89_2 : w88.cell? ⟨gb249, 2, none⟩ = some (.int .i64 t268) := (blk_cell BK249.out 2).trans rfl; have hcz89_3 : w88.cell? ⟨gb249, 3, none⟩ = some (.int .i64 t268) := (blk_cell BK249.out 3).trans rfl; have hfz89_0 := blk_frozen BK249.out 0; have hfz89_1 := blk_frozen BK249.out 1; have hfz89_2 := blk_frozen BK249.out 2; have hfz89_3 := blk_frozen BK249.out 3) | ((with_reducible refine gate_builtin (b := .append) (xs := #[.tmp 76, .tmp 78]) rfl ?_); at_builtin; refine Kd.R_append k73 w.heap.size rfl (.tmp 76) (.tmp 78) 27 73 (.agg #[(.int .i64 0), (.int .i64 0), (.int .i64 0), (.int .i64 0)]) 32 rfl Try.underlying27 info73 rfl (by decide) (by omega) u9 x9_1 (⟨t247, 0, t268, t268⟩ : S73) [.int .i64 t247, .int .i64 0, .int .i64 t268, .int .i64 t268] (fun k_ => k_ ≠ gb249) (fun _ => False) rfl rfl ?aP (fun _ hk => hk.elim) ?aF ?aO (Below.refl _ _) ?aS ?aL ?_; (case aP => exact k73_mkM _ _ _ (⟨t247, 0, t268, t268⟩ : S73)); (case aF => exact (fun k_ hk => Kd.freshB (g := gb249) (o := .cells #[.int .i64 t247, .int .i64 0, .int .i64 t268, .int .i64 t268] 73 (0, 0)) (by (with_reducible repeat (first | refine blk_drewN ?_ _ | refine blk_drew ?_ | refine blk_alloc ?_ _)); exact BK249.out) k_ hk)); (case aO => exact (by (with_reducible repeat (first | apply Kd.R_alloc | apply Kd.R_drewN | apply Kd.R_drew)); exact HO_9.out)); (case aS => exact (keep_size (w := w) (g := g) (row := none) (by repeat (first | (with_reducible first | exact HK.out | apply KeepBut.set_ | apply keep_drewN | apply keep_drew | apply keep_alloc | refine keep_far ?_ GW249.out _) | exact HK.out)))); (case aL => have := LMc80.out; omega); intro v275 w90 ho hb hg hat; rw [← Ny274.out] at ho; have n0_ := Aside0.mk (Kd.R_over' (by (with_reducible repeat (first | apply Kd.R_alloc | apply Kd.R_drewN | apply Kd.R_drew)); exact HO_10.out) (Kd.R_typed (by (with_reducible repeat (first | apply Kd.R_alloc | apply Kd.R_drewN | apply Kd.R_drew)); exact HO_9.out)) (by decide) hg); have n1_ := Aside0.mk (blk_grown (g := gb249) (o := .cells #[.int .i64 t247, .int .i64 0, .int .i64 t268, .int .i64 t268] 73 (0, 0)) (by (with_reducible repeat (first | refine blk_drewN ?_ _ | refine blk_drew ?_ | refine blk_alloc ?_ _)); exact BK249.out) hg (Kd.R_away HO_9.out (fun _ hk => hk))); have n2_ := Aside0.mk (IsS119.grown (by repeat (first | (with_reducible first | exact HI0.out | apply IsS119.alloc | apply IsS119.drewN | apply IsS119.drew | apply IsS119.set_1 | refine IsS119.far ?_ NB0_249.out _) | exact HI0.out)) hg (IsS119.own_ne HI0.out HO_9.out (by decide))); have n3_ := Aside0.mk (below_weaken (by repeat (first | (with_reducible first | exact HB.out | apply bwA | apply bwN | apply bwD | refine below_set ?_ (IsS119.ge HI0.out) | refine below_set ?_ GE249.out) | exact HB.out)) HL.out hb); have n4_ := Aside0.mk (KeepBut.trans (by repeat (first | (with_reducible first | exact HK.out | apply KeepBut.set_ | apply keep_drewN | apply keep_drew | apply keep_alloc | refine keep_far ?_ GW249.out _) | exact HK.out)) (KeepBut.of_grown hg g) (Kd.R_base2 HO_9.out)); have n5_ := Aside0.mk (ho); clear HO_10; clear BK249; clear HI0; clear HB; clear HK; clear HO_9; have HO_10 := n0_; have BK249 := n1_; have HI0 := n2_; have HB := n3_; have HK := n4_; have HO276 := n5_; clear n0_ n1_ n2_ n3_ n4_ n5_; clear ho hb hg hat) | ((with_reducible refine gate_builtin (b := .append) (xs := #[.tmp 80, .tmp 82]) rfl ?_); at_builtin; refine Kd.R_append (Kd.int .i64) w.heap.size rfl (.tmp 80) (.tmp 82) 23 3 (.int .i64 0) 8 rfl Try.underlying23 info3 rfl (by decide) (by omega) (.slice Ao82 x10_1.length co82) x10_1 t273 [.int .i64 t273] (fun _ => True) (fun _ => False) rfl rfl ?aP (fun _ hk => hk.elim) ?aF ?aO (Below.refl _ _) ?aS ?aL ?_; (case aP => exact rfl); (case aF => exact (fun _ _ => trivial)); (case aO => exact (by (with_reducible repeat (first | apply Kd.R_alloc | apply Kd.R_drewN | apply Kd.R_drew)); exact HO_10.out)); (case aS => exact (keep_size (w := w) (g := g) (row := none) (by repeat (first | (with_reducible first | exact HK.out | apply KeepBut.set_ | apply keep_drewN | apply keep_drew | apply keep_alloc | refine keep_far ?_ GW249.out _) | exact HK.out)))); (case aL => have := LMc81.out; omega); intro v278 w91 ho hb hg hat; rw [← Ny277.out] at ho; have n0_ := Aside0.mk (blk_grown (g := gb249) (o := .cells #[.int .i64 t247, .int .i64 0, .int .i64 t268, .int .i64 t268] 73 (0, 0)) (by (with_reducible repeat (first | refine blk_drewN ?_ _ | refine blk_drew ?_ | refine blk_alloc ?_ _)); exact BK249.out) hg (Kd.R_ne HO_10.out BK249.out (by decide))); have n1_ := Aside0.mk (IsS119.grown (by repeat (first | (with_reducible first | exact HI0.out | apply IsS119.alloc | apply IsS119.drewN | apply IsS119.drew | apply IsS119.set_1 | refine IsS119.far ?_ NB0_249.out _) | exact HI0.out)) hg (IsS119.own_ne HI0.out HO_10.out (by decide))); have n2_ := Aside0.mk (Kd.R_over' (by (with_reducible repeat (first | apply Kd.R_alloc | apply Kd.R_drewN | apply Kd.R_drew)); exact HO276.out) (Kd.R_typed (by (with_reducible repeat (first | apply Kd.R_alloc | apply Kd.R_drewN | apply Kd.R_drew)); exact HO_10.out)) (by decide) hg); have n3_ := Aside0.mk (below_weaken (by repeat (first | (with_reducible first | exact HB.out | apply bwA | apply bwN | apply bwD | refine below_set ?_ (IsS119.ge HI0.out) | refine below_set ?_ GE249.out) | exact HB.out)) HL.out hb); have n4_ := Aside0.mk (KeepBut.trans (by repeat (first | (with_reducible first | exact HK.out | apply KeepBut.set_ | apply keep_drewN | apply keep_drew | apply keep_alloc | refine keep_far ?_ GW249.out _) | exact HK.out)) (KeepBut.of_grown hg g) (Kd.R_base2 HO_10.out)); have n5_ := Aside0.mk (ho); clear BK249; clear HI0; clear HO276; clear HB; clear HK; clear HO_10; have BK249 := n0_; have HI0 := n1_; have HO276 := n2_; have HB := n3_; have HK := n4_; have HO279 := n5_; clear n0_ n1_ n2_ n3_ n4_ n5_; clear ho hb hg hat))
             go_roundg kj64
             case measure => have := HK1.out; have := HJ12.out; have := HJ64.out; omega
             case rel => exact ⟨(y274), (y277), (wrap64 (x11_1 - 1)), (t271), (by first | rfl | (simp; done) | (simp [*]; done)), H', ⟨by have := HK1.out; have := HJ12.out; have := HJ64.out; omega⟩, ⟨by (with_reducible repeat (first | apply Kd.R_alloc | apply Kd.R_drewN | apply Kd.R_drew)); exact Kd.R_mono HO276.out (fun _ hk => trivial)⟩, ⟨by (with_reducible repeat (first | apply Kd.R_alloc | apply Kd.R_drewN | apply Kd.R_drew)); exact HO279.out⟩, ⟨by repeat (first | (with_reducible first | exact HI0.out | apply IsS119.alloc | apply IsS119.drewN | apply IsS119.drew | apply IsS119.set_1 | refine IsS119.far ?_ NB0_249.out _) | exact HI0.out)⟩, ⟨by repeat (first | (with_reducible first | exact HK.out | apply KeepBut.set_ | apply keep_drewN | apply keep_drew | apply keep_alloc | refine keep_far ?_ GW249.out _) | exact HK.out)⟩, ⟨by repeat (first | (with_reducible first | exact HB.out | apply bwA | apply bwN | apply bwD | refine below_set ?_ (IsS119.ge HI0.out) | refine below_set ?_ GE249.out) | exact HB.out)⟩⟩
            ·rw [if_neg c81] at H
             exact absurd H (by simp)
           ·rw [if_neg c80] at H
            exact absurd H (by simp)
         ·replace c70 := Bool.eq_false_iff.mpr c70
          subst c70
          have H1 : ((spec_l1Kind.f kj64 t247 0 t268 t270 x10_1 a1).bind fun t280 => (if t280 = 0 then (spec_l1Terms.l0 kj64 a1 a2 x9_1 x10_1 (wrap64 (x11_1 - 1)) s0_0 t271) else (if x9_1.length < 4398046511104 then (if x10_1.length < 17592186044416 then (spec_l1Terms.l0 kj64 a1 a2 (x9_1 ++ [(⟨t247, 0, t268, t270⟩ : S73)]) (x10_1 ++ [t280]) (wrap64 (x11_1 - 1)) s0_0 t271) else (none)) else (none)))) = some (r1, r2) := by rw [if_neg (show ¬ (false = true) by decide)] at H; exact H
          clear H
          have H := H1
          clear H1
          replace H := Option.bind_eq_some_iff.mp H
          obtain ⟨t280, A920, H⟩ := H
          replace H : (if t280 = 0 then (spec_l1Terms.l0 kj64 a1 a2 x9_1 x10_1 (wrap64 (x11_1 - 1)) s0_0 t271) else (if x9_1.length < 4398046511104 then (if x10_1.length < 17592186044416 then (spec_l1Terms.l0 kj64 a1 a2 (x9_1 ++ [(⟨t247, 0, t268, t270⟩ : S73)]) (x10_1 ++ [t280]) (wrap64 (x11_1 - 1)) s0_0 t271) else (none)) else (none))) = some (r1, r2) := H
          have A92 := Aside0.mk A920
          clear A920
          by_cases c93 : t280 = 0
          ·rw [if_pos c93] at H
           have c93b0 : (t280 == 0) = true := beq_iff_eq.mpr c93
           have c93b1 : (t280 != 0) = false := bne_eq_false_iff_eq.mpr c93
           clear c93
           have H' := Aside0.mk H
           clear H
           obtain ⟨Ao94, co94, eo94⟩ := Kd.R_slice HO_10.out
           subst eo94
           go_wp2_with (first | ((with_reducible refine gate_callee (f := 108) rfl ?_); refine goesL_ (some 58) rfl rfl Try.func108 (by kernel_rfl) rfl #[.pointer (some ⟨g, 0, none⟩), .slice Ao94 x10_1.length co94, .int .i64 x14_64] rfl (by (try simp only [List.map_toArray, List.map_cons, List.map_nil]); first | done | rfl | (simp only [List.length_drop, List.length_take]; rfl)) ?_; (with_reducible refine (spec_l1Pick.calls kj64 g s0_0 t248 _ _ x10_1 x14_64 t268 t269 w0 _ ?side1 ?side2 ?side3 ?side4 ?side5 A67.out).mono ?_); (case side1 => repeat (first | (with_reducible first | exact HI0.out | apply IsS119.alloc | apply IsS119.drewN | apply IsS119.drew | apply IsS119.set_1 | refine IsS119.far ?_ NB0_249.out _) | exact HI0.out)); (case side2 => repeat (first | (with_reducible first | exact HB.out | apply bwA | apply bwN | apply bwD | refine below_set ?_ (IsS119.ge HI0.out) | refine below_set ?_ GE249.out) | exact HB.out)); (case side3 => repeat (first | exact (Kd.R_reads' HO_10.out).2.2 | (with_reducible refine Kd.C_alloc ?_ _) | (with_reducible refine Kd.C_drewN ?_ _) | (with_reducible refine Kd.C_drew ?_))); (case side4 => exact (Kd.R_reads' HO_10.out).2.1); (case side5 => exact far_slice (IsS119.own_ne HI0.out HO_10.out (by decide))); rintro e w95 ⟨rfl, hi, hb, hk⟩; refine ⟨_, rfl, ?_⟩; have n0_ := Aside0.mk (Kd.R_mono (Kd.R_keep (IsS119.apart (show IsS119 w0 _ g s0_0 t248 from by repeat (first | (with_reducible first | exact HI0.out | apply IsS119.alloc | apply IsS119.drewN | apply IsS119.drew | apply IsS119.set_1 | refine IsS119.far ?_ NB0_249.out _) | exact HI0.out)) (by (with_reducible repeat (first | apply Kd.R_alloc | apply Kd.R_drewN | apply Kd.R_drew)); exact HO_9.out) (by decide)) hk (fun _ h => h.2)) (fun _ h => h.1)); have n1_ := Aside0.mk (Kd.R_mono (Kd.R_keep (IsS119.apart (show IsS119 w0 _ g s0_0 t248 from by repeat (first | (with_reducible first | exact HI0.out | apply IsS119.alloc | apply IsS119.drewN | apply IsS119.drew | apply IsS119.set_1 | refine IsS119.far ?_ NB0_249.out _) | exact HI0.out)) (by (with_reducible repeat (first | apply Kd.R_alloc | apply Kd.R_drewN | apply Kd.R_drew)); exact HO_10.out) (by decide)) hk (fun _ h => h.2)) (fun _ h => h.1)); have n2_ := Aside0.mk (KeepBut.blk hk (g' := gb249) (o := .cells #[.int .i64 t247, .int .i64 0, .int .i64 0, .int .i64 0] 73 (0, 0)) (by (with_reducible repeat (first | refine blk_drewN ?_ _ | refine blk_drew ?_ | refine blk_alloc ?_ _)); exact BK249.out) NB249_0.out (by simp)); have n3_ := Aside0.mk (KeepBut.trans (by repeat (first | (with_reducible first | exact HK.out | apply KeepBut.set_ | apply keep_drewN | apply keep_drew | apply keep_alloc | refine keep_far ?_ GW249.out _) | exact HK.out)) hk (.inl rfl)); have n4_ := Aside0.mk (hb); have n5_ := Aside0.mk (hi); clear HO_9; clear HO_10; clear BK249; clear HK; clear HB; clear HI0; have HO_9 := n0_; have HO_10 := n1_; have BK249 := n2_; have HK := n3_; have HB := n4_; have HI0 := n5_; clear n0_ n1_ n2_ n3_ n4_ n5_; (try clear hb); (try clear hb2); (try clear hk); (try clear hi); have hnb96 := NB249_0.out; have hnc96 := NB0_249.out; have hcz97_0 : w95.cell? ⟨gb249, 0, none⟩ = some (.int .i64 t247) := (blk_cell BK249.out 0).trans rfl; have hcz97_1 : w95.cell? ⟨gb249, 1, none⟩ = some (.int .i64 0) := (blk_cell BK249.out 1).trans rfl; have hcz97_2 : w95.cell? ⟨gb249, 2, none⟩ = some (.int .i64 0) := (blk_cell BK249.out 2).trans rfl; have hcz97_3 : w95.cell? ⟨gb249, 3, none⟩ = some (.int .i64 0) := (blk_cell BK249.out 3).trans rfl; have hfz97_0 := blk_frozen BK249.out 0; have hfz97_1 := blk_frozen BK249.out 1; have hfz97_2 := blk_frozen BK249.out 2; have hfz97_3 := blk_frozen BK249.out 3) | ((with_reducible refine gate_callee (f := 108) rfl ?_); refine goesL_ (some 63) rfl rfl Try.func108 (by kernel_rfl) rfl #[.pointer (some ⟨g, 0, none⟩), .slice Ao94 x10_1.length co94, .int .i64 x14_64] rfl (by (try simp only [List.map_toArray, List.map_cons, List.map_nil]); first | done | rfl | (simp only [List.length_drop, List.length_take]; rfl)) ?_; (with_reducible refine (spec_l1Pick.calls kj64 g s0_0 t269 _ _ x10_1 x14_64 t270 t271 w0 _ ?side1 ?side2 ?side3 ?side4 ?side5 A68.out).mono ?_); (case side1 => repeat (first | (with_reducible first | exact HI0.out | apply IsS119.alloc | apply IsS119.drewN | apply IsS119.drew | apply IsS119.set_1 | refine IsS119.far ?_ NB0_249.out _) | exact HI0.out)); (case side2 => repeat (first | (with_reducible first | exact HB.out | apply bwA | apply bwN | apply bwD | refine below_set ?_ (IsS119.ge HI0.out) | refine below_set ?_ GE249.out) | exact HB.out)); (case side3 => refine (Kd.R_reads' (e := 3) (base := w.heap.size) (ok := fun k_ => True) (n := x10_1.length) (c := co94) ?_).2.2; exact (by (with_reducible repeat (first | apply Kd.R_alloc | apply Kd.R_drewN | apply Kd.R_drew)); exact (Kd.R_mono (Kd.R_far (p := ⟨gb249, 2, none⟩) (Kd.R_types HO_10.out BK249.out (by decide)) (fun _ hk => hk.2) (.int .i64 t268)) (fun _ h_ => h_.1)))); (case side4 => exact (Kd.R_reads' HO_10.out).2.1); (case side5 => exact far_slice (IsS119.own_ne HI0.out HO_10.out (by decide))); rintro e w98 ⟨rfl, hi, hb, hk⟩; refine ⟨_, rfl, ?_⟩; have n0_ := Aside0.mk (Kd.R_mono (Kd.R_keep (IsS119.apart (show IsS119 w0 _ g s0_0 t269 from by repeat (first | (with_reducible first | exact HI0.out | apply IsS119.alloc | apply IsS119.drewN | apply IsS119.drew | apply IsS119.set_1 | refine IsS119.far ?_ NB0_249.out _) | exact HI0.out)) (by (with_reducible repeat (first | apply Kd.R_alloc | apply Kd.R_drewN | apply Kd.R_drew)); exact (Kd.R_mono (Kd.R_far (p := ⟨gb249, 2, none⟩) (Kd.R_mono HO_9.out (fun k_ hk => (⟨hk, hk⟩ : _ ∧ k_ ≠ gb249))) (fun _ hk => hk.2) (.int .i64 t268)) (fun _ h_ => h_.1))) (by decide)) hk (fun _ h => h.2)) (fun _ h => h.1)); have n1_ := Aside0.mk (Kd.R_mono (Kd.R_keep (IsS119.apart (show IsS119 w0 _ g s0_0 t269 from by repeat (first | (with_reducible first | exact HI0.out | apply IsS119.alloc | apply IsS119.drewN | apply IsS119.drew | apply IsS119.set_1 | refine IsS119.far ?_ NB0_249.out _) | exact HI0.out)) (by (with_reducible repeat (first | apply Kd.R_alloc | apply Kd.R_drewN | apply Kd.R_drew)); exact (Kd.R_mono (Kd.R_far (p := ⟨gb249, 2, none⟩) (Kd.R_types HO_10.out BK249.out (by decide)) (fun _ hk => hk.2) (.int .i64 t268)) (fun _ h_ => h_.1))) (by decide)) hk (fun _ h => h.2)) (fun _ h => h.1)); have n2_ := Aside0.mk (KeepBut.blk hk (g' := gb249) (o := .cells #[.int .i64 t247, .int .i64 0, .int .i64 t268, .int .i64 0] 73 (0, 0)) (by (with_reducible repeat (first | refine blk_drewN ?_ _ | refine blk_drew ?_ | refine blk_alloc ?_ _)); refine blk_put (cs := #[.int .i64 t247, .int .i64 0, .int .i64 0, .int .i64 0]) ?_ 2 _ rfl; (with_reducible repeat (first | refine blk_drewN ?_ _ | refine blk_drew ?_ | refine blk_alloc ?_ _)); exact BK249.out) NB249_0.out (by simp)); have n3_ := Aside0.mk (KeepBut.trans (by repeat (first | (with_reducible first | exact HK.out | apply KeepBut.set_ | apply keep_drewN | apply keep_drew | apply keep_alloc | refine keep_far ?_ GW249.out _) | exact HK.out)) hk (.inl rfl)); have n4_ := Aside0.mk (hb); have n5_ := Aside0.mk (hi); clear HO_9; clear HO_10; clear BK249; clear HK; clear HB; clear HI0; have HO_9 := n0_; have HO_10 := n1_; have BK249 := n2_; have HK := n3_; have HB := n4_; have HI0 := n5_; clear n0_ n1_ n2_ n3_ n4_ n5_; (try clear hb); (try clear hb2); (try clear hk); (try clear hi); have hcz99_0 : w98.cell? ⟨gb249, 0, none⟩ = some (.int .i64 t247) := (blk_cell BK249.out 0).trans rfl; have hcz99_1 : w98.cell? ⟨gb249, 1, none⟩ = some (.int .i64 0) := (blk_cell BK249.out 1).trans rfl; have hcz99_2 : w98.cell? ⟨gb249, 2, none⟩ = some (.int .i64 t268) := (blk_cell BK249.out 2).trans rfl; have hcz99_3 : w98.cell? ⟨gb249, 3, none⟩ = some (.int .i64 0) := (blk_cell BK249.out 3).trans rfl; have hfz99_0 := blk_frozen BK249.out 0; have hfz99_1 := blk_frozen BK249.out 1; have hfz99_2 := blk_frozen BK249.out 2; have hfz99_3 := blk_frozen BK249.out 3) | ((with_reducible refine gate_callee (f := 70) rfl ?_); refine goesL_ (some 66) rfl rfl Try.func70 (by kernel_rfl) rfl #[.int .i64 t247] rfl (by (try simp only [List.map_toArray, List.map_cons, List.map_nil]); first | done | rfl | (simp only [List.length_drop, List.length_take]; rfl)) ?_; (with_reducible refine (spec_l1One.calls t247 false _ A69.out).mono ?_); rintro e w' ⟨rfl, ⟨nd, rfl⟩⟩; refine ⟨_, rfl, ?_⟩) | ((with_reducible refine gate_callee (f := 106) rfl ?_); refine goesL_ (some 73) rfl rfl Try.func106 (by kernel_rfl) rfl #[.agg #[.int .i64 t247, .int .i64 0, .int .i64 t268, .int .i64 t270], .slice Ao94 x10_1.length co94, .int .i64 a1] rfl (by (try simp only [List.map_toArray, List.map_cons, List.map_nil]); first | done | rfl | (simp only [List.length_drop, List.length_take]; rfl)) ?_; (with_reducible refine (spec_l1Kind.calls kj64 t247 0 t268 t270 _ _ x10_1 a1 t280 _ ?side1 ?side2 A92.out).mono ?_); (case side1 => refine (Kd.R_reads' (e := 3) (base := w.heap.size) (ok := fun k_ => True) (n := x10_1.length) (c := co94) ?_).2.2; exact (by (with_reducible repeat (first | apply Kd.R_alloc | apply Kd.R_drewN | apply Kd.R_drew)); exact (Kd.R_mono (Kd.R_far (p := ⟨gb249, 3, none⟩) (Kd.R_types HO_10.out BK249.out (by decide)) (fun _ hk => hk.2) (.int .i64 t270)) (fun _ h_ => h_.1)))); (case side2 => exact (Kd.R_reads' HO_10.out).2.1); rintro e w100 ⟨rfl, hb⟩; refine ⟨_, rfl, ?_⟩; have n0_ := Aside0.mk (Kd.R_below (by (with_reducible repeat (first | apply Kd.R_alloc | apply Kd.R_drewN | apply Kd.R_drew)); exact (Kd.R_mono (Kd.R_far (p := ⟨gb249, 3, none⟩) (Kd.R_mono HO_9.out (fun k_ hk => (⟨hk, hk⟩ : _ ∧ k_ ≠ gb249))) (fun _ hk => hk.2) (.int .i64 t270)) (fun _ h_ => h_.1))) hb); have n1_ := Aside0.mk (Kd.R_below (by (with_reducible repeat (first | apply Kd.R_alloc | apply Kd.R_drewN | apply Kd.R_drew)); exact (Kd.R_mono (Kd.R_far (p := ⟨gb249, 3, none⟩) (Kd.R_types HO_10.out BK249.out (by decide)) (fun _ hk => hk.2) (.int .i64 t270)) (fun _ h_ => h_.1))) hb); have n2_ := Aside0.mk (blk_below (g := gb249) (o := .cells #[.int .i64 t247, .int .i64 0, .int .i64 t268, .int .i64 t270] 73 (0, 0)) (by (with_reducible repeat (first | refine blk_drewN ?_ _ | refine blk_drew ?_ | refine blk_alloc ?_ _)); refine blk_put (cs := #[.int .i64 t247, .int .i64 0, .int .i64 t268, .int .i64 0]) ?_ 3 _ rfl; (with_reducible repeat (first | refine blk_drewN ?_ _ | refine blk_drew ?_ | refine blk_alloc ?_ _)); exact BK249.out) hb); have n3_ := Aside0.mk (IsS119.below (show IsS119 w0 _ g s0_0 t271 from by repeat (first | (with_reducible first | exact HI0.out | apply IsS119.alloc | apply IsS119.drewN | apply IsS119.drew | apply IsS119.set_1 | refine IsS119.far ?_ NB0_249.out _) | exact HI0.out)) hb); have n4_ := Aside0.mk (KeepBut.trans (by repeat (first | (with_reducible first | exact HK.out | apply KeepBut.set_ | apply keep_drewN | apply keep_drew | apply keep_alloc | refine keep_far ?_ GW249.out _) | exact HK.out)) (KeepBut.of_below hb g none) (.inl rfl)); have n5_ := Aside0.mk (below_step (by repeat (first | (with_reducible first | exact HB.out | apply bwA | apply bwN | apply bwD | refine below_set ?_ (IsS119.ge HI0.out) | refine below_set ?_ GE249.out) | exact HB.out)) hb); clear HO_9; clear HO_10; clear BK249; clear HI0; clear HK; clear HB; have HO_9 := n0_; have HO_10 := n1_; have BK249 := n2_; have HI0 := n3_; have HK := n4_; have HB := n5_; clear n0_ n1_ n2_ n3_ n4_ n5_; (try clear hb); (try clear hb2); (try clear hk); (try clear hi)))
           go_roundg kj64
           case measure => have := HK1.out; have := HJ12.out; have := HJ64.out; omega
           case rel => exact ⟨(x9_1), (x10_1), (wrap64 (x11_1 - 1)), (t271), (by first | rfl | (simp; done) | (simp [*]; done)), H', ⟨by have := HK1.out; have := HJ12.out; have := HJ64.out; omega⟩, ⟨by (with_reducible repeat (first | apply Kd.R_alloc | apply Kd.R_drewN | apply Kd.R_drew)); exact Kd.R_mono HO_9.out (fun _ hk => trivial)⟩, ⟨by (with_reducible repeat (first | apply Kd.R_alloc | apply Kd.R_drewN | apply Kd.R_drew)); exact HO_10.out⟩, ⟨by repeat (first | (with_reducible first | exact HI0.out | apply IsS119.alloc | apply IsS119.drewN | apply IsS119.drew | apply IsS119.set_1 | refine IsS119.far ?_ NB0_249.out _) | exact HI0.out)⟩, ⟨by repeat (first | (with_reducible first | exact HK.out | apply KeepBut.set_ | apply keep_drewN | apply keep_drew | apply keep_alloc | refine keep_far ?_ GW249.out _) | exact HK.out)⟩, ⟨by repeat (first | (with_reducible first | exact HB.out | apply bwA | apply bwN | apply bwD | refine below_set ?_ (IsS119.ge HI0.out) | refine below_set ?_ GE249.out) | exact HB.out)⟩⟩
          ·rw [if_neg c93] at H
           have c93b0 : (t280 == 0) = false := beq_eq_false_iff_ne.mpr c93
           have c93b1 : (t280 != 0) = true := bne_iff_ne.mpr c93
           by_cases c101 : x9_1.length < 4398046511104
           ·rw [if_pos c101] at H
            have LMc101 := Aside0.mk c101
            clear c101
            obtain ⟨y281, hy281⟩ : ∃ y_ : List (S73), y_ = (x9_1 ++ [(⟨t247, 0, t268, t270⟩ : S73)]) := ⟨_, rfl⟩
            replace H : (if x10_1.length < 17592186044416 then (spec_l1Terms.l0 kj64 a1 a2 y281 (x10_1 ++ [t280]) (wrap64 (x11_1 - 1)) s0_0 t271) else (none)) = some (r1, r2) := by first | (rw [hy281]; with_reducible exact H) | (have H2_ := (Option.bind_some _ _).symm.trans H; rw [hy281]; with_reducible exact H2_) | (have H2_ := (Option.bind_some _ _).symm.trans H; with_reducible exact H2_) | with_reducible exact H | (rw [hy281]; exact H) | exact H
            have Ny281 := Aside0.mk hy281
            clear hy281
            by_cases c102 : x10_1.length < 17592186044416
            ·rw [if_pos c102] at H
             have LMc102 := Aside0.mk c102
             clear c102
             obtain ⟨y284, hy284⟩ : ∃ y_ : List Int, y_ = (x10_1 ++ [t280]) := ⟨_, rfl⟩
             replace H : (spec_l1Terms.l0 kj64 a1 a2 y281 y284 (wrap64 (x11_1 - 1)) s0_0 t271) = some (r1, r2) := by first | (rw [hy284]; with_reducible exact H) | (have H2_ := (Option.bind_some _ _).symm.trans H; rw [hy284]; with_reducible exact H2_) | (have H2_ := (Option.bind_some _ _).symm.trans H; with_reducible exact H2_) | with_reducible exact H | (rw [hy284]; exact H) | exact H
             have Ny284 := Aside0.mk hy284
             clear hy284
             have H' := Aside0.mk H
             clear H
             obtain ⟨Ao103, co103, eo103⟩ := Kd.R_slice HO_10.out
             subst eo103
             go_wp2_with (first | ((with_reducible refine gate_callee (f := 108) rfl ?_); refine goesL_ (some 58) rfl rfl Try.func108 (by kernel_rfl) rfl #[.pointer (some ⟨g, 0, none⟩), .slice Ao103 x10_1.length co103, .int .i64 x14_64] rfl (by (try simp only [List.map_toArray, List.map_cons, List.map_nil]); first | done | rfl | (simp only [List.length_drop, List.length_take]; rfl)) ?_; (with_reducible refine (spec_l1Pick.calls kj64 g s0_0 t248 _ _ x10_1 x14_64 t268 t269 w0 _ ?side1 ?side2 ?side3 ?side4 ?side5 A67.out).mono ?_); (case side1 => repeat (first | (with_reducible first | exact HI0.out | apply IsS119.alloc | apply IsS119.drewN | apply IsS119.drew | apply IsS119.set_1 | refine IsS119.far ?_ NB0_249.out _) | exact HI0.out)); (case side2 => repeat (first | (with_reducible first | exact HB.out | apply bwA | apply bwN | apply bwD | refine below_set ?_ (IsS119.ge HI0.out) | refine below_set ?_ GE249.out) | exact HB.out)); (case side3 => repeat (first | exact (Kd.R_reads' HO_10.out).2.2 | (with_reducible refine Kd.C_alloc ?_ _) | (with_reducible refine Kd.C_drewN ?_ _) | (with_reducible refine Kd.C_drew ?_))); (case side4 => exact (Kd.R_reads' HO_10.out).2.1); (case side5 => exact far_slice (IsS119.own_ne HI0.out HO_10.out (by decide))); rintro e w104 ⟨rfl, hi, hb, hk⟩; refine ⟨_, rfl, ?_⟩; have n0_ := Aside0.mk (Kd.R_mono (Kd.R_keep (IsS119.apart (show IsS119 w0 _ g s0_0 t248 from by repeat (first | (with_reducible first | exact HI0.out | apply IsS119.alloc | apply IsS119.drewN | apply IsS119.drew | apply IsS119.set_1 | refine IsS119.far ?_ NB0_249.out _) | exact HI0.out)) (by (with_reducible repeat (first | apply Kd.R_alloc | apply Kd.R_drewN | apply Kd.R_drew)); exact HO_9.out) (by decide)) hk (fun _ h => h.2)) (fun _ h => h.1)); have n1_ := Aside0.mk (Kd.R_mono (Kd.R_keep (IsS119.apart (show IsS119 w0 _ g s0_0 t248 from by repeat (first | (with_reducible first | exact HI0.out | apply IsS119.alloc | apply IsS119.drewN | apply IsS119.drew | apply IsS119.set_1 | refine IsS119.far ?_ NB0_249.out _) | exact HI0.out)) (by (with_reducible repeat (first | apply Kd.R_alloc | apply Kd.R_drewN | apply Kd.R_drew)); exact HO_10.out) (by decide)) hk (fun _ h => h.2)) (fun _ h => h.1)); have n2_ := Aside0.mk (KeepBut.blk hk (g' := gb249) (o := .cells #[.int .i64 t247, .int .i64 0, .int .i64 0, .int .i64 0] 73 (0, 0)) (by (with_reducible repeat (first | refine blk_drewN ?_ _ | refine blk_drew ?_ | refine blk_alloc ?_ _)); exact BK249.out) NB249_0.out (by simp)); have n3_ := Aside0.mk (KeepBut.trans (by repeat (first | (with_reducible first | exact HK.out | apply KeepBut.set_ | apply keep_drewN | apply keep_drew | apply keep_alloc | refine keep_far ?_ GW249.out _) | exact HK.out)) hk (.inl rfl)); have n4_ := Aside0.mk (hb); have n5_ := Aside0.mk (hi); clear HO_9; clear HO_10; clear BK249; clear HK; clear HB; clear HI0; have HO_9 := n0_; have HO_10 := n1_; have BK249 := n2_; have HK := n3_; have HB := n4_; have HI0 := n5_; clear n0_ n1_ n2_ n3_ n4_ n5_; (try clear hb); (try clear hb2); (try clear hk); (try clear hi); have hnb105 := NB249_0.out; have hnc105 := NB0_249.out; have hcz106_0 : w104.cell? ⟨gb249, 0, none⟩ = some (.int .i64 t247) := (blk_cell BK249.out 0).trans rfl; have hcz106_1 : w104.cell? ⟨gb249, 1, none⟩ = some (.int .i64 0) := (blk_cell BK249.out 1).trans rfl; have hcz106_2 : w104.cell? ⟨gb249, 2, none⟩ = some (.int .i64 0) := (blk_cell BK249.out 2).trans rfl; have hcz106_3 : w104.cell? ⟨gb249, 3, none⟩ = some (.int .i64 0) := (blk_cell BK249.out 3).trans rfl; have hfz106_0 := blk_frozen BK249.out 0; have hfz106_1 := blk_frozen BK249.out 1; have hfz106_2 := blk_frozen BK249.out 2; have hfz106_3 := blk_frozen BK249.out 3) | ((with_reducible refine gate_callee (f := 108) rfl ?_); refine goesL_ (some 63) rfl rfl Try.func108 (by kernel_rfl) rfl #[.pointer (some ⟨g, 0, none⟩), .slice Ao103 x10_1.length co103, .int .i64 x14_64] rfl (by (try simp only [List.map_toArray, List.map_cons, List.map_nil]); first | done | rfl | (simp only [List.length_drop, List.length_take]; rfl)) ?_; (with_reducible refine (spec_l1Pick.calls kj64 g s0_0 t269 _ _ x10_1 x14_64 t270 t271 w0 _ ?side1 ?side2 ?side3 ?side4 ?side5 A68.out).mono ?_); (case side1 => repeat (first | (with_reducible first | exact HI0.out | apply IsS119.alloc | apply IsS119.drewN | apply IsS119.drew | apply IsS119.set_1 | refine IsS119.far ?_ NB0_249.out _) | exact HI0.out)); (case side2 => repeat (first | (with_reducible first | exact HB.out | apply bwA | apply bwN | apply bwD | refine below_set ?_ (IsS119.ge HI0.out) | refine below_set ?_ GE249.out) | exact HB.out)); (case side3 => refine (Kd.R_reads' (e := 3) (base := w.heap.size) (ok := fun k_ => True) (n := x10_1.length) (c := co103) ?_).2.2; exact (by (with_reducible repeat (first | apply Kd.R_alloc | apply Kd.R_drewN | apply Kd.R_drew)); exact (Kd.R_mono (Kd.R_far (p := ⟨gb249, 2, none⟩) (Kd.R_types HO_10.out BK249.out (by decide)) (fun _ hk => hk.2) (.int .i64 t268)) (fun _ h_ => h_.1)))); (case side4 => exact (Kd.R_reads' HO_10.out).2.1); (case side5 => exact far_slice (IsS119.own_ne HI0.out HO_10.out (by decide))); rintro e w107 ⟨rfl, hi, hb, hk⟩; refine ⟨_, rfl, ?_⟩; have n0_ := Aside0.mk (Kd.R_mono (Kd.R_keep (IsS119.apart (show IsS119 w0 _ g s0_0 t269 from by repeat (first | (with_reducible first | exact HI0.out | apply IsS119.alloc | apply IsS119.drewN | apply IsS119.drew | apply IsS119.set_1 | refine IsS119.far ?_ NB0_249.out _) | exact HI0.out)) (by (with_reducible repeat (first | apply Kd.R_alloc | apply Kd.R_drewN | apply Kd.R_drew)); exact (Kd.R_mono (Kd.R_far (p := ⟨gb249, 2, none⟩) (Kd.R_mono HO_9.out (fun k_ hk => (⟨hk, hk⟩ : _ ∧ k_ ≠ gb249))) (fun _ hk => hk.2) (.int .i64 t268)) (fun _ h_ => h_.1))) (by decide)) hk (fun _ h => h.2)) (fun _ h => h.1)); have n1_ := Aside0.mk (Kd.R_mono (Kd.R_keep (IsS119.apart (show IsS119 w0 _ g s0_0 t269 from by repeat (first | (with_reducible first | exact HI0.out | apply IsS119.alloc | apply IsS119.drewN | apply IsS119.drew | apply IsS119.set_1 | refine IsS119.far ?_ NB0_249.out _) | exact HI0.out)) (by (with_reducible repeat (first | apply Kd.R_alloc | apply Kd.R_drewN | apply Kd.R_drew)); exact (Kd.R_mono (Kd.R_far (p := ⟨gb249, 2, none⟩) (Kd.R_types HO_10.out BK249.out (by decide)) (fun _ hk => hk.2) (.int .i64 t268)) (fun _ h_ => h_.1))) (by decide)) hk (fun _ h => h.2)) (fun _ h => h.1)); have n2_ := Aside0.mk (KeepBut.blk hk (g' := gb249) (o := .cells #[.int .i64 t247, .int .i64 0, .int .i64 t268, .int .i64 0] 73 (0, 0)) (by (with_reducible repeat (first | refine blk_drewN ?_ _ | refine blk_drew ?_ | refine blk_alloc ?_ _)); refine blk_put (cs := #[.int .i64 t247, .int .i64 0, .int .i64 0, .int .i64 0]) ?_ 2 _ rfl; (with_reducible repeat (first | refine blk_drewN ?_ _ | refine blk_drew ?_ | refine blk_alloc ?_ _)); exact BK249.out) NB249_0.out (by simp)); have n3_ := Aside0.mk (KeepBut.trans (by repeat (first | (with_reducible first | exact HK.out | apply KeepBut.set_ | apply keep_drewN | apply keep_drew | apply keep_alloc | refine keep_far ?_ GW249.out _) | exact HK.out)) hk (.inl rfl)); have n4_ := Aside0.mk (hb); have n5_ := Aside0.mk (hi); clear HO_9; clear HO_10; clear BK249; clear HK; clear HB; clear HI0; have HO_9 := n0_; have HO_10 := n1_; have BK249 := n2_; have HK := n3_; have HB := n4_; have HI0 := n5_; clear n0_ n1_ n2_ n3_ n4_ n5_; (try clear hb); (try clear hb2); (try clear hk); (try clear hi); have hcz108_0 : w107.cell? ⟨gb249, 0, none⟩ = some (.int .i64 t247) := (blk_cell BK249.out 0).trans rfl; have hcz108_1 : w107.cell? ⟨gb249, 1, none⟩ = some (.int .i64 0) := (blk_cell BK249.out 1).trans rfl; have hcz108_2 : w107.cell? ⟨gb249, 2, none⟩ = some (.int .i64 t268) := (blk_cell BK249.out 2).trans rfl; have hcz108_3 : w107.cell? ⟨gb249, 3, none⟩ = some (.int .i64 0) := (blk_cell BK249.out 3).trans rfl; have hfz108_0 := blk_frozen BK249.out 0; have hfz108_1 := blk_frozen BK249.out 1; have hfz108_2 := blk_frozen BK249.out 2; have hfz108_3 := blk_frozen BK249.out 3) | ((with_reducible refine gate_callee (f := 70) rfl ?_); refine goesL_ (some 66) rfl rfl Try.func70 (by kernel_rfl) rfl #[.int .i64 t247] rfl (by (try simp only [List.map_toArray, List.map_cons, List.map_nil]); first | done | rfl | (simp only [List.length_drop, List.length_take]; rfl)) ?_; (with_reducible refine (spec_l1One.calls t247 false _ A69.out).mono ?_); rintro e w' ⟨rfl, ⟨nd, rfl⟩⟩; refine ⟨_, rfl, ?_⟩) | ((with_reducible refine gate_callee (f := 106) rfl ?_); refine goesL_ (some 73) rfl rfl Try.func106 (by kernel_rfl) rfl #[.agg #[.int .i64 t247, .int .i64 0, .int .i64 t268, .int .i64 t270], .slice Ao103 x10_1.length co103, .int .i64 a1] rfl (by (try simp only [List.map_toArray, List.map_cons, List.map_nil]); first | done | rfl | (simp only [List.length_drop, List.length_take]; rfl)) ?_; (with_reducible refine (spec_l1Kind.calls kj64 t247 0 t268 t270 _ _ x10_1 a1 t280 _ ?side1 ?side2 A92.out).mono ?_); (case side1 => refine (Kd.R_reads' (e := 3) (base := w.heap.size) (ok := fun k_ => True) (n := x10_1.length) (c := co103) ?_).2.2; exact (by (with_reducible repeat (first | apply Kd.R_alloc | apply Kd.R_drewN | apply Kd.R_drew)); exact (Kd.R_mono (Kd.R_far (p := ⟨gb249, 3, none⟩) (Kd.R_types HO_10.out BK249.out (by decide)) (fun _ hk => hk.2) (.int .i64 t270)) (fun _ h_ => h_.1)))); (case side2 => exact (Kd.R_reads' HO_10.out).2.1); rintro e w109 ⟨rfl, hb⟩; refine ⟨_, rfl, ?_⟩; have n0_ := Aside0.mk (Kd.R_below (by (with_reducible repeat (first | apply Kd.R_alloc | apply Kd.R_drewN | apply Kd.R_drew)); exact (Kd.R_mono (Kd.R_far (p := ⟨gb249, 3, none⟩) (Kd.R_mono HO_9.out (fun k_ hk => (⟨hk, hk⟩ : _ ∧ k_ ≠ gb249))) (fun _ hk => hk.2) (.int .i64 t270)) (fun _ h_ => h_.1))) hb); have n1_ := Aside0.mk (Kd.R_below (by (with_reducible repeat (first | apply Kd.R_alloc | apply Kd.R_drewN | apply Kd.R_drew)); exact (Kd.R_mono (Kd.R_far (p := ⟨gb249, 3, none⟩) (Kd.R_types HO_10.out BK249.out (by decide)) (fun _ hk => hk.2) (.int .i64 t270)) (fun _ h_ => h_.1))) hb); have n2_ := Aside0.mk (blk_below (g := gb249) (o := .cells #[.int .i64 t247, .int .i64 0, .int .i64 t268, .int .i64 t270] 73 (0, 0)) (by (with_reducible repeat (first | refine blk_drewN ?_ _ | refine blk_drew ?_ | refine blk_alloc ?_ _)); refine blk_put (cs := #[.int .i64 t247, .int .i64 0, .int .i64 t268, .int .i64 0]) ?_ 3 _ rfl; (with_reducible repeat (first | refine blk_drewN ?_ _ | refine blk_drew ?_ | refine blk_alloc ?_ _)); exact BK249.out) hb); have n3_ := Aside0.mk (IsS119.below (show IsS119 w0 _ g s0_0 t271 from by repeat (first | (with_reducible first | exact HI0.out | apply IsS119.alloc | apply IsS119.drewN | apply IsS119.drew | apply IsS119.set_1 | refine IsS119.far ?_ NB0_249.out _) | exact HI0.out)) hb); have n4_ := Aside0.mk (KeepBut.trans (by repeat (first | (with_reducible first | exact HK.out | apply KeepBut.set_ | apply keep_drewN | apply keep_drew | apply keep_alloc | refine keep_far ?_ GW249.out _) | exact HK.out)) (KeepBut.of_below hb g none) (.inl rfl)); have n5_ := Aside0.mk (below_step (by repeat (first | (with_reducible first | exact HB.out | apply bwA | apply bwN | apply bwD | refine below_set ?_ (IsS119.ge HI0.out) | refine below_set ?_ GE249.out) | exact HB.out)) hb); clear HO_9; clear HO_10; clear BK249; clear HI0; clear HK; clear HB; have HO_9 := n0_; have HO_10 := n1_; have BK249 := n2_; have HI0 := n3_; have HK := n4_; have HB := n5_; clear n0_ n1_ n2_ n3_ n4_ n5_; (try clear hb); (try clear hb2); (try clear hk); (try clear hi); have hcz110_0 : w109.cell? ⟨gb249, 0, none⟩ = some (.int .i64 t247) := (blk_cell BK249.out 0).trans rfl; have hcz110_1 : w109.cell? ⟨gb249, 1, none⟩ = some (.int .i64 0) := (blk_cell BK249.out 1).trans rfl; have hcz110_2 : w109.cell? ⟨gb249, 2, none⟩ = some (.int .i64 t268) := (blk_cell BK249.out 2).trans rfl; have hcz110_3 : w109.cell? ⟨gb249, 3, none⟩ = some (.int .i64 t270) := (blk_cell BK249.out 3).trans rfl; have hfz110_0 := blk_frozen BK249.out 0; have hfz110_1 := blk_frozen BK249.out 1; have hfz110_2 := blk_frozen BK249.out 2; have hfz110_3 := blk_frozen BK249.out 3) | ((with_reducible refine gate_builtin (b := .append) (xs := #[.tmp 76, .tmp 78]) rfl ?_); at_builtin; refine Kd.R_append k73 w.heap.size rfl (.tmp 76) (.tmp 78) 27 73 (.agg #[(.int .i64 0), (.int .i64 0), (.int .i64 0), (.int .i64 0)]) 32 rfl Try.underlying27 info73 rfl (by decide) (by omega) u9 x9_1 (⟨t247, 0, t268, t270⟩ : S73) [.int .i64 t247, .int .i64 0, .int .i64 t268, .int .i64 t270] (fun k_ => k_ ≠ gb249) (fun _ => False) rfl rfl ?aP (fun _ hk => hk.elim) ?aF ?aO (Below.refl _ _) ?aS ?aL ?_; (case aP => exact k73_mkM _ _ _ (⟨t247, 0, t268, t270⟩ : S73)); (case aF => exact (fun k_ hk => Kd.freshB (g := gb249) (o := .cells #[.int .i64 t247, .int .i64 0, .int .i64 t268, .int .i64 t270] 73 (0, 0)) (by (with_reducible repeat (first | refine blk_drewN ?_ _ | refine blk_drew ?_ | refine blk_alloc ?_ _)); exact BK249.out) k_ hk)); (case aO => exact (by (with_reducible repeat (first | apply Kd.R_alloc | apply Kd.R_drewN | apply Kd.R_drew)); exact HO_9.out)); (case aS => exact (keep_size (w := w) (g := g) (row := none) (by repeat (first | (with_reducible first | exact HK.out | apply KeepBut.set_ | apply keep_drewN | apply keep_drew | apply keep_alloc | refine keep_far ?_ GW249.out _) | exact HK.out)))); (case aL => have := LMc101.out; omega); intro v282 w111 ho hb hg hat; rw [← Ny281.out] at ho; have n0_ := Aside0.mk (Kd.R_over' (by (with_reducible repeat (first | apply Kd.R_alloc | apply Kd.R_drewN | apply Kd.R_drew)); exact HO_10.out) (Kd.R_typed (by (with_reducible repeat (first | apply Kd.R_alloc | apply Kd.R_drewN | apply Kd.R_drew)); exact HO_9.out)) (by decide) hg); have n1_ := Aside0.mk (blk_grown (g := gb249) (o := .cells #[.int .i64 t247, .int .i64 0, .int .i64 t268, .int .i64 t270] 73 (0, 0)) (by (with_reducible repeat (first | refine blk_drewN ?_ _ | refine blk_drew ?_ | refine blk_alloc ?_ _)); exact BK249.out) hg (Kd.R_away HO_9.out (fun _ hk => hk))); have n2_ := Aside0.mk (IsS119.grown (by repeat (first | (with_reducible first | exact HI0.out | apply IsS119.alloc | apply IsS119.drewN | apply IsS119.drew | apply IsS119.set_1 | refine IsS119.far ?_ NB0_249.out _) | exact HI0.out)) hg (IsS119.own_ne HI0.out HO_9.out (by decide))); have n3_ := Aside0.mk (below_weaken (by repeat (first | (with_reducible first | exact HB.out | apply bwA | apply bwN | apply bwD | refine below_set ?_ (IsS119.ge HI0.out) | refine below_set ?_ GE249.out) | exact HB.out)) HL.out hb); have n4_ := Aside0.mk (KeepBut.trans (by repeat (first | (with_reducible first | exact HK.out | apply KeepBut.set_ | apply keep_drewN | apply keep_drew | apply keep_alloc | refine keep_far ?_ GW249.out _) | exact HK.out)) (KeepBut.of_grown hg g) (Kd.R_base2 HO_9.out)); have n5_ := Aside0.mk (ho); clear HO_10; clear BK249; clear HI0; clear HB; clear HK; clear HO_9; have HO_10 := n0_; have BK249 := n1_; have HI0 := n2_; have HB := n3_; have HK := n4_; have HO283 := n5_; clear n0_ n1_ n2_ n3_ n4_ n5_; clear ho hb hg hat) | ((with_reducible refine gate_builtin (b := .append) (xs := #[.tmp 80, .tmp 82]) rfl ?_); at_builtin; refine Kd.R_append (Kd.int .i64) w.heap.size rfl (.tmp 80) (.tmp 82) 23 3 (.int .i64 0) 8 rfl Try.underlying23 info3 rfl (by decide) (by omega) (.slice Ao103 x10_1.length co103) x10_1 t280 [.int .i64 t280] (fun _ => True) (fun _ => False) rfl rfl ?aP (fun _ hk => hk.elim) ?aF ?aO (Below.refl _ _) ?aS ?aL ?_; (case aP => exact rfl); (case aF => exact (fun _ _ => trivial)); (case aO => exact (by (with_reducible repeat (first | apply Kd.R_alloc | apply Kd.R_drewN | apply Kd.R_drew)); exact HO_10.out)); (case aS => exact (keep_size (w := w) (g := g) (row := none) (by repeat (first | (with_reducible first | exact HK.out | apply KeepBut.set_ | apply keep_drewN | apply keep_drew | apply keep_alloc | refine keep_far ?_ GW249.out _) | exact HK.out)))); (case aL => have := LMc102.out; omega); intro v285 w112 ho hb hg hat; rw [← Ny284.out] at ho; have n0_ := Aside0.mk (blk_grown (g := gb249) (o := .cells #[.int .i64 t247, .int .i64 0, .int .i64 t268, .int .i64 t270] 73 (0, 0)) (by (with_reducible repeat (first | refine blk_drewN ?_ _ | refine blk_drew ?_ | refine blk_alloc ?_ _)); exact BK249.out) hg (Kd.R_ne HO_10.out BK249.out (by decide))); have n1_ := Aside0.mk (IsS119.grown (by repeat (first | (with_reducible first | exact HI0.out | apply IsS119.alloc | apply IsS119.drewN | apply IsS119.drew | apply IsS119.set_1 | refine IsS119.far ?_ NB0_249.out _) | exact HI0.out)) hg (IsS119.own_ne HI0.out HO_10.out (by decide))); have n2_ := Aside0.mk (Kd.R_over' (by (with_reducible repeat (first | apply Kd.R_alloc | apply Kd.R_drewN | apply Kd.R_drew)); exact HO283.out) (Kd.R_typed (by (with_reducible repeat (first | apply Kd.R_alloc | apply Kd.R_drewN | apply Kd.R_drew)); exact HO_10.out)) (by decide) hg); have n3_ := Aside0.mk (below_weaken (by repeat (first | (with_reducible first | exact HB.out | apply bwA | apply bwN | apply bwD | refine below_set ?_ (IsS119.ge HI0.out) | refine below_set ?_ GE249.out) | exact HB.out)) HL.out hb); have n4_ := Aside0.mk (KeepBut.trans (by repeat (first | (with_reducible first | exact HK.out | apply KeepBut.set_ | apply keep_drewN | apply keep_drew | apply keep_alloc | refine keep_far ?_ GW249.out _) | exact HK.out)) (KeepBut.of_grown hg g) (Kd.R_base2 HO_10.out)); have n5_ := Aside0.mk (ho); clear BK249; clear HI0; clear HO283; clear HB; clear HK; clear HO_10; have BK249 := n0_; have HI0 := n1_; have HO283 := n2_; have HB := n3_; have HK := n4_; have HO286 := n5_; clear n0_ n1_ n2_ n3_ n4_ n5_; clear ho hb hg hat))
             go_roundg kj64
             case measure => have := HK1.out; have := HJ12.out; have := HJ64.out; omega
             case rel => exact ⟨(y281), (y284), (wrap64 (x11_1 - 1)), (t271), (by first | rfl | (simp; done) | (simp [*]; done)), H', ⟨by have := HK1.out; have := HJ12.out; have := HJ64.out; omega⟩, ⟨by (with_reducible repeat (first | apply Kd.R_alloc | apply Kd.R_drewN | apply Kd.R_drew)); exact Kd.R_mono HO283.out (fun _ hk => trivial)⟩, ⟨by (with_reducible repeat (first | apply Kd.R_alloc | apply Kd.R_drewN | apply Kd.R_drew)); exact HO286.out⟩, ⟨by repeat (first | (with_reducible first | exact HI0.out | apply IsS119.alloc | apply IsS119.drewN | apply IsS119.drew | apply IsS119.set_1 | refine IsS119.far ?_ NB0_249.out _) | exact HI0.out)⟩, ⟨by repeat (first | (with_reducible first | exact HK.out | apply KeepBut.set_ | apply keep_drewN | apply keep_drew | apply keep_alloc | refine keep_far ?_ GW249.out _) | exact HK.out)⟩, ⟨by repeat (first | (with_reducible first | exact HB.out | apply bwA | apply bwN | apply bwD | refine below_set ?_ (IsS119.ge HI0.out) | refine below_set ?_ GE249.out) | exact HB.out)⟩⟩
            ·rw [if_neg c102] at H
             exact absurd H (by simp)
           ·rw [if_neg c101] at H
            exact absurd H (by simp)
   ·rw [if_neg c11] at H
    have c11b0 : decide (0 < x11_1) = false := decide_eq_false c11
    clear c11
    have HC113 := Aside0.mk H
    clear H
    obtain ⟨Ao114, co114, eo114⟩ := Kd.R_slice HO_9.out
    subst eo114
    go_upto_if 86 with (fail)
    go_cut [9, 10] (fun v9 v10 wc => ∃ (kq : Nat) (x9_112 : List (S73)) (x10_112 : List Int), Aside0 (spec_l1Terms.j4 kq a2 x9_112 x10_112 s0_0 x1001_1 = some (r1, r2)) ∧ Aside0 (kq ≤ k1) ∧ Aside0 (Kd.R k73 73 wc w.heap.size (fun _ => True) v9 x9_112) ∧ Aside0 (Kd.R (Kd.int .i64) 3 wc w.heap.size (fun _ => True) v10 x10_112) ∧ Aside0 (IsS119 w0 wc g s0_0 x1001_1) ∧ Aside0 (KeepBut w wc g none) ∧ Aside0 (Below w0.heap.size w0 wc))
    case first =>
     have H := HC113.out
     clear HC113
     by_cases c115 : (x9_1.length : Int) = 0
     ·rw [if_pos c115] at H
      have c115b0 : ((x9_1.length : Int) == 0) = true := beq_iff_eq.mpr c115
      have c115b1 : ((x9_1.length : Int) != 0) = false := bne_eq_false_iff_eq.mpr c115
      clear c115
      (first | rw [c115b0] | (simp only [i64_w, i32_w]; rw [c115b0]) | skip)
      by_cases c116 : x9_1.length < 4398046511104
      ·rw [if_pos c116] at H
       have LMc116 := Aside0.mk c116
       clear c116
       obtain ⟨y287, hy287⟩ : ∃ y_ : List (S73), y_ = (x9_1 ++ [(⟨0, 1, 0, 0⟩ : S73)]) := ⟨_, rfl⟩
       replace H : (if x10_1.length < 17592186044416 then (spec_l1Terms.j4 k1 a2 y287 (x10_1 ++ [1]) s0_0 x1001_1) else (none)) = some (r1, r2) := by first | (rw [hy287]; with_reducible exact H) | (have H2_ := (Option.bind_some _ _).symm.trans H; rw [hy287]; with_reducible exact H2_) | (have H2_ := (Option.bind_some _ _).symm.trans H; with_reducible exact H2_) | with_reducible exact H | (rw [hy287]; exact H) | exact H
       have Ny287 := Aside0.mk hy287
       clear hy287
       by_cases c117 : x10_1.length < 17592186044416
       ·rw [if_pos c117] at H
        have LMc117 := Aside0.mk c117
        clear c117
        obtain ⟨y290, hy290⟩ : ∃ y_ : List Int, y_ = (x10_1 ++ [1]) := ⟨_, rfl⟩
        replace H : (spec_l1Terms.j4 k1 a2 y287 y290 s0_0 x1001_1) = some (r1, r2) := by first | (rw [hy290]; with_reducible exact H) | (have H2_ := (Option.bind_some _ _).symm.trans H; rw [hy290]; with_reducible exact H2_) | (have H2_ := (Option.bind_some _ _).symm.trans H; with_reducible exact H2_) | with_reducible exact H | (rw [hy290]; exact H) | exact H
        have Ny290 := Aside0.mk hy290
        clear hy290
        have H' := Aside0.mk H
        clear H
        go_wp2_with (first | ((with_reducible refine gate_builtin (b := .append) (xs := #[.tmp 87, .tmp 89]) rfl ?_); at_builtin; refine Kd.R_append k73 w.heap.size rfl (.tmp 87) (.tmp 89) 27 73 (.agg #[(.int .i64 0), (.int .i64 0), (.int .i64 0), (.int .i64 0)]) 32 rfl Try.underlying27 info73 rfl (by decide) (by omega) (.slice Ao114 x9_1.length co114) x9_1 (⟨0, 1, 0, 0⟩ : S73) [.int .i64 0, .int .i64 1, .int .i64 0, .int .i64 0] (fun _ => True) (fun _ => False) rfl rfl ?aP (fun _ hk => hk.elim) ?aF ?aO (Below.refl _ _) ?aS ?aL ?_; (case aP => exact k73_mkM _ _ _ (⟨0, 1, 0, 0⟩ : S73)); (case aF => exact (fun _ _ => trivial)); (case aO => exact (by (with_reducible repeat (first | apply Kd.R_alloc | apply Kd.R_drewN | apply Kd.R_drew)); exact HO_9.out)); (case aS => exact (keep_size (w := w) (g := g) (row := none) (by repeat (first | (with_reducible first | exact HK.out | apply KeepBut.set_ | apply keep_drewN | apply keep_drew | apply keep_alloc) | exact HK.out)))); (case aL => have := LMc116.out; omega); intro v288 w118 ho hb hg hat; rw [← Ny287.out] at ho; have n0_ := Aside0.mk (Kd.R_over' (by (with_reducible repeat (first | apply Kd.R_alloc | apply Kd.R_drewN | apply Kd.R_drew)); exact HO_10.out) (Kd.R_typed (by (with_reducible repeat (first | apply Kd.R_alloc | apply Kd.R_drewN | apply Kd.R_drew)); exact HO_9.out)) (by decide) hg); have n1_ := Aside0.mk (IsS119.grown (by repeat (first | (with_reducible first | exact HI0.out | apply IsS119.alloc | apply IsS119.drewN | apply IsS119.drew | apply IsS119.set_1) | exact HI0.out)) hg (IsS119.own_ne HI0.out HO_9.out (by decide))); have n2_ := Aside0.mk (below_weaken (by repeat (first | (with_reducible first | exact HB.out | apply bwA | apply bwN | apply bwD | refine below_set ?_ (IsS119.ge HI0.out)) | exact HB.out)) HL.out hb); have n3_ := Aside0.mk (KeepBut.trans (by repeat (first | (with_reducible first | exact HK.out | apply KeepBut.set_ | apply keep_drewN | apply keep_drew | apply keep_alloc) | exact HK.out)) (KeepBut.of_grown hg g) (Kd.R_base2 HO_9.out)); have n4_ := Aside0.mk (ho); clear HO_10; clear HI0; clear HB; clear HK; clear HO_9; have HO_10 := n0_; have HI0 := n1_; have HB := n2_; have HK := n3_; have HO289 := n4_; clear n0_ n1_ n2_ n3_ n4_; clear ho hb hg hat) | ((with_reducible refine gate_builtin (b := .append) (xs := #[.tmp 91, .tmp 92]) rfl ?_); at_builtin; refine Kd.R_append (Kd.int .i64) w.heap.size rfl (.tmp 91) (.tmp 92) 23 3 (.int .i64 0) 8 rfl Try.underlying23 info3 rfl (by decide) (by omega) u10 x10_1 1 [.int .i64 1] (fun _ => True) (fun _ => False) rfl rfl ?aP (fun _ hk => hk.elim) ?aF ?aO (Below.refl _ _) ?aS ?aL ?_; (case aP => exact rfl); (case aF => exact (fun _ _ => trivial)); (case aO => exact (by (with_reducible repeat (first | apply Kd.R_alloc | apply Kd.R_drewN | apply Kd.R_drew)); exact HO_10.out)); (case aS => exact (keep_size (w := w) (g := g) (row := none) (by repeat (first | (with_reducible first | exact HK.out | apply KeepBut.set_ | apply keep_drewN | apply keep_drew | apply keep_alloc) | exact HK.out)))); (case aL => have := LMc117.out; omega); intro v291 w119 ho hb hg hat; rw [← Ny290.out] at ho; have n0_ := Aside0.mk (IsS119.grown (by repeat (first | (with_reducible first | exact HI0.out | apply IsS119.alloc | apply IsS119.drewN | apply IsS119.drew | apply IsS119.set_1) | exact HI0.out)) hg (IsS119.own_ne HI0.out HO_10.out (by decide))); have n1_ := Aside0.mk (Kd.R_over' (by (with_reducible repeat (first | apply Kd.R_alloc | apply Kd.R_drewN | apply Kd.R_drew)); exact HO289.out) (Kd.R_typed (by (with_reducible repeat (first | apply Kd.R_alloc | apply Kd.R_drewN | apply Kd.R_drew)); exact HO_10.out)) (by decide) hg); have n2_ := Aside0.mk (below_weaken (by repeat (first | (with_reducible first | exact HB.out | apply bwA | apply bwN | apply bwD | refine below_set ?_ (IsS119.ge HI0.out)) | exact HB.out)) HL.out hb); have n3_ := Aside0.mk (KeepBut.trans (by repeat (first | (with_reducible first | exact HK.out | apply KeepBut.set_ | apply keep_drewN | apply keep_drew | apply keep_alloc) | exact HK.out)) (KeepBut.of_grown hg g) (Kd.R_base2 HO_10.out)); have n4_ := Aside0.mk (ho); clear HI0; clear HO289; clear HB; clear HK; clear HO_10; have HI0 := n0_; have HO289 := n1_; have HB := n2_; have HK := n3_; have HO292 := n4_; clear n0_ n1_ n2_ n3_ n4_; clear ho hb hg hat))
        go_meet
        case rel => exact ⟨_, (y287), (y290), H', ⟨by have := HK1.out; first | omega | exact Nat.le_refl _⟩, ⟨by (with_reducible repeat (first | apply Kd.R_alloc | apply Kd.R_drewN | apply Kd.R_drew)); exact HO289.out⟩, ⟨by (with_reducible repeat (first | apply Kd.R_alloc | apply Kd.R_drewN | apply Kd.R_drew)); exact HO292.out⟩, ⟨by repeat (first | (with_reducible first | exact HI0.out | apply IsS119.alloc | apply IsS119.drewN | apply IsS119.drew | apply IsS119.set_1) | exact HI0.out)⟩, ⟨by repeat (first | (with_reducible first | exact HK.out | apply KeepBut.set_ | apply keep_drewN | apply keep_drew | apply keep_alloc) | exact HK.out)⟩, ⟨by repeat (first | (with_reducible first | exact HB.out | apply bwA | apply bwN | apply bwD | refine below_set ?_ (IsS119.ge HI0.out)) | exact HB.out)⟩⟩
       ·rw [if_neg c117] at H
        exact absurd H (by simp)
      ·rw [if_neg c116] at H
       exact absurd H (by simp)
     ·rw [if_neg c115] at H
      have c115b0 : ((x9_1.length : Int) == 0) = false := beq_eq_false_iff_ne.mpr c115
      have c115b1 : ((x9_1.length : Int) != 0) = true := bne_iff_ne.mpr c115
      have c115b2 : ¬ (x9_1 = []) := fun h_ => c115 (by rw [h_]; rfl)
      (first | rw [c115b0] | (simp only [i64_w, i32_w]; rw [c115b0]) | skip)
      have H' := Aside0.mk H
      clear H
      go_wp2
      go_meet
      case rel => exact ⟨_, (x9_1), (x10_1), H', ⟨by have := HK1.out; first | omega | exact Nat.le_refl _⟩, ⟨by (with_reducible repeat (first | apply Kd.R_alloc | apply Kd.R_drewN | apply Kd.R_drew)); exact HO_9.out⟩, ⟨by (with_reducible repeat (first | apply Kd.R_alloc | apply Kd.R_drewN | apply Kd.R_drew)); exact HO_10.out⟩, ⟨by repeat (first | (with_reducible first | exact HI0.out | apply IsS119.alloc | apply IsS119.drewN | apply IsS119.drew | apply IsS119.set_1) | exact HI0.out)⟩, ⟨by repeat (first | (with_reducible first | exact HK.out | apply KeepBut.set_ | apply keep_drewN | apply keep_drew | apply keep_alloc) | exact HK.out)⟩, ⟨by repeat (first | (with_reducible first | exact HB.out | apply bwA | apply bwN | apply bwD | refine below_set ?_ (IsS119.ge HI0.out)) | exact HB.out)⟩⟩
    case rest =>
     clear HC113
     try clear c1
     try clear c2
     try clear p2
     try clear c3
     try clear c4
     try clear c5
     try clear c6
     try clear p6
     try clear c7
     try clear c8
     try clear c9
     try clear c10
     try clear c11
     try clear c11b0
     try clear c19
     try clear c21
     try clear c21b0
     try clear c21b1
     try clear c21b2
     try clear c24
     try clear c28
     try clear c30
     try clear c30b0
     try clear c31
     try clear c34
     try clear c34b0
     try clear c34b1
     try clear c36
     try clear c40
     try clear c41
     try clear c43
     try clear c51
     try clear c51b0
     try clear c51b1
     try clear c52
     try clear c56
     try clear c57
     try clear c58
     try clear c60
     try clear p64
     try clear c66
     try clear c66b0
     try clear c67
     try clear c70
     try clear c72
     try clear c72b0
     try clear c72b1
     try clear c75
     try clear c80
     try clear c81
     try clear c84
     try clear c93
     try clear c93b0
     try clear c93b1
     try clear c96
     try clear c101
     try clear c102
     try clear c105
     try clear c106
     try clear c107
     try clear c108
     try clear c115
     try clear c115b0
     try clear c115b1
     try clear c115b2
     try clear c116
     try clear c117
     try clear hcz106_0
     try clear hcz106_1
     try clear hcz106_2
     try clear hcz106_3
     try clear hcz108_0
     try clear hcz108_1
     try clear hcz108_2
     try clear hcz108_3
     try clear hcz110_0
     try clear hcz110_1
     try clear hcz110_2
     try clear hcz110_3
     try clear hcz20_0
     try clear hcz20_1
     try clear hcz20_2
     try clear hcz20_3
     try clear hcz29_0
     try clear hcz29_1
     try clear hcz29_2
     try clear hcz29_3
     try clear hcz37_0
     try clear hcz37_1
     try clear hcz37_2
     try clear hcz37_3
     try clear hcz44_0
     try clear hcz44_1
     try clear hcz44_2
     try clear hcz44_3
     try clear hcz47_0
     try clear hcz47_1
     try clear hcz47_2
     try clear hcz47_3
     try clear hcz53_0
     try clear hcz53_1
     try clear hcz53_2
     try clear hcz53_3
     try clear hcz59_0
     try clear hcz59_1
     try clear hcz59_2
     try clear hcz59_3
     try clear hcz62_0
     try clear hcz62_1
     try clear hcz62_2
     try clear hcz62_3
     try clear hcz76_0
     try clear hcz76_1
     try clear hcz76_2
     try clear hcz76_3
     try clear hcz78_0
     try clear hcz78_1
     try clear hcz78_2
     try clear hcz78_3
     try clear hcz85_0
     try clear hcz85_1
     try clear hcz85_2
     try clear hcz85_3
     try clear hcz87_0
     try clear hcz87_1
     try clear hcz87_2
     try clear hcz87_3
     try clear hcz89_0
     try clear hcz89_1
     try clear hcz89_2
     try clear hcz89_3
     try clear hcz97_0
     try clear hcz97_1
     try clear hcz97_2
     try clear hcz97_3
     try clear hcz99_0
     try clear hcz99_1
     try clear hcz99_2
     try clear hcz99_3
     try clear hfz106_0
     try clear hfz106_1
     try clear hfz106_2
     try clear hfz106_3
     try clear hfz108_0
     try clear hfz108_1
     try clear hfz108_2
     try clear hfz108_3
     try clear hfz110_0
     try clear hfz110_1
     try clear hfz110_2
     try clear hfz110_3
     try clear hfz20_0
     try clear hfz20_1
     try clear hfz20_2
     try clear hfz20_3
     try clear hfz29_0
     try clear hfz29_1
     try clear hfz29_2
     try clear hfz29_3
     try clear hfz37_0
     try clear hfz37_1
     try clear hfz37_2
     try clear hfz37_3
     try clear hfz44_0
     try clear hfz44_1
     try clear hfz44_2
     try clear hfz44_3
     try clear hfz47_0
     try clear hfz47_1
     try clear hfz47_2
     try clear hfz47_3
     try clear hfz53_0
     try clear hfz53_1
     try clear hfz53_2
     try clear hfz53_3
     try clear hfz59_0
     try clear hfz59_1
     try clear hfz59_2
     try clear hfz59_3
     try clear hfz62_0
     try clear hfz62_1
     try clear hfz62_2
     try clear hfz62_3
     try clear hfz76_0
     try clear hfz76_1
     try clear hfz76_2
     try clear hfz76_3
     try clear hfz78_0
     try clear hfz78_1
     try clear hfz78_2
     try clear hfz78_3
     try clear hfz85_0
     try clear hfz85_1
     try clear hfz85_2
     try clear hfz85_3
     try clear hfz87_0
     try clear hfz87_1
     try clear hfz87_2
     try clear hfz87_3
     try clear hfz89_0
     try clear hfz89_1
     try clear hfz89_2
     try clear hfz89_3
     try clear hfz97_0
     try clear hfz97_1
     try clear hfz97_2
     try clear hfz97_3
     try clear hfz99_0
     try clear hfz99_1
     try clear hfz99_2
     try clear hfz99_3
     try clear p2
     try clear p6
     try clear p64
     obtain ⟨kq, x9_112, x10_112, HA, HJ112, HO_9, HO_10, HI0, HK, HB⟩ := hcut
     cases kq with
     | zero => exact absurd HA.out (by simp [spec_l1Terms.j4])
     | succ kj112 =>
      have H := HA.out
      clear HA
      simp only [spec_l1Terms.j4] at H
      have HC120 := Aside0.mk H
      clear H
      obtain ⟨Ao121, co121, eo121⟩ := Kd.R_slice HO_9.out
      subst eo121
      go_upto_region 27 with (fail)
      go_cut [106] (fun v106 wc => ∃ (kq : Nat) (x106_119 : Bool), v106 = .bool x106_119 ∧ Aside0 (spec_l1Terms.j5 kq a2 x9_112 x10_112 (wrap64 ((x9_112.length : Int) - 1)) x106_119 s0_0 x1001_1 = some (r1, r2)) ∧ Aside0 (kq ≤ kj112) ∧ Aside0 (Kd.R k73 73 wc w.heap.size (fun _ => True) (.slice Ao121 x9_112.length co121) x9_112) ∧ Aside0 (Kd.R (Kd.int .i64) 3 wc w.heap.size (fun _ => True) u10 x10_112) ∧ Aside0 (IsS119 w0 wc g s0_0 x1001_1) ∧ Aside0 (KeepBut w wc g none) ∧ Aside0 (Below w0.heap.size w0 wc))
      case first =>
       have H := HC120.out
       clear HC120
       by_cases c122 : a2 = 2
       ·rw [if_pos c122] at H
        have c122b0 : (a2 == 2) = true := beq_iff_eq.mpr c122
        have c122b1 : (a2 != 2) = false := bne_eq_false_iff_eq.mpr c122
        clear c122
        (first | rw [c122b0] | (simp only [i64_w, i32_w]; rw [c122b0]) | skip)
        obtain ⟨ji123, hji123⟩ : ∃ j_ : Int, (wrap64 ((x9_112.length : Int) - 1)) = j_ := ⟨_, rfl⟩
        replace H : (if 0 ≤ (ji123) then (if (ji123) < (x10_112.length : Int) then (spec_l1Terms.j5 kj112 a2 x9_112 x10_112 ji123 ((rd x10_112 (ji123)) != a2) s0_0 x1001_1) else (none)) else (none)) = some (r1, r2) := by first | (rw [hji123] at H; exact H) | (simp only [hji123] at H ⊢; exact H)
        have hji123w : (IntKind.i64.wrap ((x9_112.length : Int) - 1)) = ji123 := (i64_w _).trans hji123
        by_cases c124 : 0 ≤ (ji123)
        ·rw [if_pos c124] at H
         have c124b0 : decide (0 ≤ (ji123)) = true := decide_eq_true c124
         clear c124
         by_cases c125 : (ji123) < (x10_112.length : Int)
         ·rw [if_pos c125] at H
          have c125b0 : decide ((ji123) < (x10_112.length : Int)) = true := decide_eq_true c125
          clear c125
          have H' := Aside0.mk H
          clear H
          obtain ⟨Ao126, co126, eo126⟩ := Kd.R_slice HO_10.out
          subst eo126
          have p293 : 0 ≤ ((ji123) : Int) := of_decide_eq_true (by first | (with_reducible assumption) | assumption)
          have q293 : (ji123) < (x10_112.length : Int) := of_decide_eq_true (by first | (with_reducible assumption) | assumption)
          obtain ⟨ad293, e293, hx293_0⟩ := Kd.at_int (Kd.R_reads' HO_10.out).2.2 (ji123) p293 q293
          cases e293
          replace p293 := eq_true p293
          replace q293 := eq_true q293
          go_wp2
          (try subst hji123)
          go_meet
          case rel => exact ⟨_, (((rd x10_112 (wrap64 ((x9_112.length : Int) - 1))) != a2)), (by first | rfl | (simp; done) | (simp only [← hji123] <;> (first | rfl | simp)) | (simp [*]; done)), H', ⟨by have := HK1.out; have := HJ112.out; first | omega | exact Nat.le_refl _⟩, ⟨by (with_reducible repeat (first | apply Kd.R_alloc | apply Kd.R_drewN | apply Kd.R_drew)); exact HO_9.out⟩, ⟨by (with_reducible repeat (first | apply Kd.R_alloc | apply Kd.R_drewN | apply Kd.R_drew)); exact HO_10.out⟩, ⟨by repeat (first | (with_reducible first | exact HI0.out | apply IsS119.alloc | apply IsS119.drewN | apply IsS119.drew | apply IsS119.set_1) | exact HI0.out)⟩, ⟨by repeat (first | (with_reducible first | exact HK.out | apply KeepBut.set_ | apply keep_drewN | apply keep_drew | apply keep_alloc) | exact HK.out)⟩, ⟨by repeat (first | (with_reducible first | exact HB.out | apply bwA | apply bwN | apply bwD | refine below_set ?_ (IsS119.ge HI0.out)) | exact HB.out)⟩⟩
         ·rw [if_neg c125] at H
          exact absurd H (by simp)
        ·rw [if_neg c124] at H
         exact absurd H (by simp)
       ·rw [if_neg c122] at H
        have c122b0 : (a2 == 2) = false := beq_eq_false_iff_ne.mpr c122
        have c122b1 : (a2 != 2) = true := bne_iff_ne.mpr c122
        (first | rw [c122b0] | (simp only [i64_w, i32_w]; rw [c122b0]) | skip)
        have H' := Aside0.mk H
        clear H
        go_wp2
        go_meet
        case rel => exact ⟨_, (false), (by first | rfl | (simp; done) | (simp [*]; done)), H', ⟨by have := HK1.out; have := HJ112.out; first | omega | exact Nat.le_refl _⟩, ⟨by (with_reducible repeat (first | apply Kd.R_alloc | apply Kd.R_drewN | apply Kd.R_drew)); exact HO_9.out⟩, ⟨by (with_reducible repeat (first | apply Kd.R_alloc | apply Kd.R_drewN | apply Kd.R_drew)); exact HO_10.out⟩, ⟨by repeat (first | (with_reducible first | exact HI0.out | apply IsS119.alloc | apply IsS119.drewN | apply IsS119.drew | apply IsS119.set_1) | exact HI0.out)⟩, ⟨by repeat (first | (with_reducible first | exact HK.out | apply KeepBut.set_ | apply keep_drewN | apply keep_drew | apply keep_alloc) | exact HK.out)⟩, ⟨by repeat (first | (with_reducible first | exact HB.out | apply bwA | apply bwN | apply bwD | refine below_set ?_ (IsS119.ge HI0.out)) | exact HB.out)⟩⟩
      case rest =>
       clear HC120
       try clear c1
       try clear c2
       try clear p2
       try clear q2
       try clear hx2
       try clear c3
       try clear c4
       try clear c5
       try clear c6
       try clear p6
       try clear c7
       try clear c8
       try clear c9
       try clear c10
       try clear c11
       try clear c11b0
       try clear c12
       try clear c19
       try clear c21
       try clear c21b0
       try clear c21b1
       try clear c21b2
       try clear c24
       try clear c28
       try clear p29
       try clear q29
       try clear hx29
       try clear c30
       try clear c30b0
       try clear c31
       try clear c34
       try clear c34b0
       try clear c34b1
       try clear c36
       try clear c40
       try clear c41
       try clear c43
       try clear c51
       try clear c51b0
       try clear c51b1
       try clear c52
       try clear c56
       try clear c57
       try clear c58
       try clear c60
       try clear p64
       try clear c66
       try clear c66b0
       try clear c67
       try clear c70
       try clear c72
       try clear c72b0
       try clear c72b1
       try clear c75
       try clear c80
       try clear c81
       try clear c84
       try clear c93
       try clear c93b0
       try clear c93b1
       try clear c96
       try clear c101
       try clear c102
       try clear c105
       try clear c106
       try clear c107
       try clear c108
       try clear c115
       try clear c115b0
       try clear c115b1
       try clear c115b2
       try clear c116
       try clear c117
       try clear c122
       try clear c122b0
       try clear c122b1
       try clear c124
       try clear c124b0
       try clear c125
       try clear c125b0
       try clear hcz106_0
       try clear hcz106_1
       try clear hcz106_2
       try clear hcz106_3
       try clear hcz108_0
       try clear hcz108_1
       try clear hcz108_2
       try clear hcz108_3
       try clear hcz110_0
       try clear hcz110_1
       try clear hcz110_2
       try clear hcz110_3
       try clear hcz20_0
       try clear hcz20_1
       try clear hcz20_2
       try clear hcz20_3
       try clear hcz29_0
       try clear hcz29_1
       try clear hcz29_2
       try clear hcz29_3
       try clear hcz37_0
       try clear hcz37_1
       try clear hcz37_2
       try clear hcz37_3
       try clear hcz44_0
       try clear hcz44_1
       try clear hcz44_2
       try clear hcz44_3
       try clear hcz47_0
       try clear hcz47_1
       try clear hcz47_2
       try clear hcz47_3
       try clear hcz53_0
       try clear hcz53_1
       try clear hcz53_2
       try clear hcz53_3
       try clear hcz59_0
       try clear hcz59_1
       try clear hcz59_2
       try clear hcz59_3
       try clear hcz62_0
       try clear hcz62_1
       try clear hcz62_2
       try clear hcz62_3
       try clear hcz76_0
       try clear hcz76_1
       try clear hcz76_2
       try clear hcz76_3
       try clear hcz78_0
       try clear hcz78_1
       try clear hcz78_2
       try clear hcz78_3
       try clear hcz85_0
       try clear hcz85_1
       try clear hcz85_2
       try clear hcz85_3
       try clear hcz87_0
       try clear hcz87_1
       try clear hcz87_2
       try clear hcz87_3
       try clear hcz89_0
       try clear hcz89_1
       try clear hcz89_2
       try clear hcz89_3
       try clear hcz97_0
       try clear hcz97_1
       try clear hcz97_2
       try clear hcz97_3
       try clear hcz99_0
       try clear hcz99_1
       try clear hcz99_2
       try clear hcz99_3
       try clear hfz106_0
       try clear hfz106_1
       try clear hfz106_2
       try clear hfz106_3
       try clear hfz108_0
       try clear hfz108_1
       try clear hfz108_2
       try clear hfz108_3
       try clear hfz110_0
       try clear hfz110_1
       try clear hfz110_2
       try clear hfz110_3
       try clear hfz20_0
       try clear hfz20_1
       try clear hfz20_2
       try clear hfz20_3
       try clear hfz29_0
       try clear hfz29_1
       try clear hfz29_2
       try clear hfz29_3
       try clear hfz37_0
       try clear hfz37_1
       try clear hfz37_2
       try clear hfz37_3
       try clear hfz44_0
       try clear hfz44_1
       try clear hfz44_2
       try clear hfz44_3
       try clear hfz47_0
       try clear hfz47_1
       try clear hfz47_2
       try clear hfz47_3
       try clear hfz53_0
       try clear hfz53_1
       try clear hfz53_2
       try clear hfz53_3
       try clear hfz59_0
       try clear hfz59_1
       try clear hfz59_2
       try clear hfz59_3
       try clear hfz62_0
       try clear hfz62_1
       try clear hfz62_2
       try clear hfz62_3
       try clear hfz76_0
       try clear hfz76_1
       try clear hfz76_2
       try clear hfz76_3
       try clear hfz78_0
       try clear hfz78_1
       try clear hfz78_2
       try clear hfz78_3
       try clear hfz85_0
       try clear hfz85_1
       try clear hfz85_2
       try clear hfz85_3
       try clear hfz87_0
       try clear hfz87_1
       try clear hfz87_2
       try clear hfz87_3
       try clear hfz89_0
       try clear hfz89_1
       try clear hfz89_2
       try clear hfz89_3
       try clear hfz97_0
       try clear hfz97_1
       try clear hfz97_2
       try clear hfz97_3
       try clear hfz99_0
       try clear hfz99_1
       try clear hfz99_2
       try clear hfz99_3
       try clear hx293_0
       try clear p2
       try clear p293
       try clear p6
       try clear p64
       try clear q293
       obtain ⟨kq, x106_119, rfl, HA, HJ119, HO_9, HO_10, HI0, HK, HB⟩ := hcut
       cases kq with
       | zero => exact absurd HA.out (by simp [spec_l1Terms.j5])
       | succ kj119 =>
        have H := HA.out
        clear HA
        simp only [spec_l1Terms.j5] at H
        by_cases c127 : x106_119 = true
        ·subst c127
         have H1 : ((spec_l40Rd_num.f kj119 s0_0 x1001_1 (([5, 6] : List Int))).bind fun bt297 => ((spec_l1Pick.f kj119 s0_0 bt297.2 x10_112 1).bind fun bt299 => (if x9_112.length < 4398046511104 then (some ((x9_112 ++ [(⟨bt297.1, 0, (wrap64 ((x9_112.length : Int) - 1)), bt299.1⟩ : S73)]), bt299.2)) else (none)))) = some (r1, r2) := by rw [if_pos rfl] at H; exact H
         clear H
         have H := H1
         clear H1
         obtain ⟨y294, hy294⟩ : ∃ y_ : List Int, y_ = (([5, 6] : List Int)) := ⟨_, rfl⟩
         replace H : ((spec_l40Rd_num.f kj119 s0_0 x1001_1 y294).bind fun bt297 => ((spec_l1Pick.f kj119 s0_0 bt297.2 x10_112 1).bind fun bt299 => (if x9_112.length < 4398046511104 then (some ((x9_112 ++ [(⟨bt297.1, 0, (wrap64 ((x9_112.length : Int) - 1)), bt299.1⟩ : S73)]), bt299.2)) else (none)))) = some (r1, r2) := by first | (rw [hy294]; with_reducible exact H) | (have H2_ := (Option.bind_some _ _).symm.trans H; rw [hy294]; with_reducible exact H2_) | (have H2_ := (Option.bind_some _ _).symm.trans H; with_reducible exact H2_) | with_reducible exact H | (rw [hy294]; exact H) | exact H
         have Ny294 := Aside0.mk hy294
         clear hy294
         replace H := Option.bind_eq_some_iff.mp H
         obtain ⟨⟨t297, t298⟩, A1280, H⟩ := H
         replace H : ((spec_l1Pick.f kj119 s0_0 t298 x10_112 1).bind fun bt299 => (if x9_112.length < 4398046511104 then (some ((x9_112 ++ [(⟨t297, 0, (wrap64 ((x9_112.length : Int) - 1)), bt299.1⟩ : S73)]), bt299.2)) else (none))) = some (r1, r2) := H
         have A128 := Aside0.mk A1280
         clear A1280
         replace H := Option.bind_eq_some_iff.mp H
         obtain ⟨⟨t299, t300⟩, A1290, H⟩ := H
         replace H : (if x9_112.length < 4398046511104 then (some ((x9_112 ++ [(⟨t297, 0, (wrap64 ((x9_112.length : Int) - 1)), t299⟩ : S73)]), t300)) else (none)) = some (r1, r2) := H
         have A129 := Aside0.mk A1290
         clear A1290
         by_cases c130 : x9_112.length < 4398046511104
         ·rw [if_pos c130] at H
          have LMc130 := Aside0.mk c130
          clear c130
          obtain ⟨y301, hy301⟩ : ∃ y_ : List (S73), y_ = (x9_112 ++ [(⟨t297, 0, (wrap64 ((x9_112.length : Int) - 1)), t299⟩ : S73)]) := ⟨_, rfl⟩
          replace H : (some (y301, t300)) = some (r1, r2) := by first | (rw [hy301]; with_reducible exact H) | (have H2_ := (Option.bind_some _ _).symm.trans H; rw [hy301]; with_reducible exact H2_) | (have H2_ := (Option.bind_some _ _).symm.trans H; with_reducible exact H2_) | with_reducible exact H | (rw [hy301]; exact H) | exact H
          have Ny301 := Aside0.mk hy301
          clear hy301
          simp only [Option.some.injEq, Prod.mk.injEq] at H
          obtain ⟨rfl, rfl⟩ := H
          go_wp2_with (first | ((with_reducible refine gate_dst (N := 109) rfl ?_); refine Kd.R_lit (Kd.int .i64) _ 3 ?hg (N := 109) ?hd (xs := ([5, 6] : List Int)) (inner := [.int .i64 5, .int .i64 6]) (ok := fun _ => True) (okp := fun _ => True) ?hr ?hp (fun _ hk => hk) trivial (Below.refl _ _) (Nat.le_refl _) (by simp) ?_; (case hd => rfl); (case hg => rfl); (case hr => first | (go_simp; done) | (go_simp; rfl)); (case hp => exact (Reps.one (show Kd.M (Kd.int .i64) _ _ _ 5 [.int .i64 5] from rfl) (Reps.one (show Kd.M (Kd.int .i64) _ _ _ 6 [.int .i64 6] from rfl) (Reps.none _ _)))); intro v295 w131 ho132 hb hg_ hnew_; clear hg_ hnew_; (first | rw [← Ny294.out] at ho132 | (simp only [Int.reduceToNat] at ho132; rw [← Ny294.out] at ho132)); have n0_ := Aside0.mk (Kd.R_below (by (with_reducible repeat (first | apply Kd.R_alloc | apply Kd.R_drewN | apply Kd.R_drew)); exact HO_9.out) hb); have n1_ := Aside0.mk (Kd.R_elder' (by (with_reducible repeat (first | apply Kd.R_alloc | apply Kd.R_drewN | apply Kd.R_drew)); exact HO_10.out) (Kd.R_base ho132) hb); have n2_ := Aside0.mk (Kd.R_lower (Kd.R_new' ho132 (Kd.R_lt (by (with_reducible repeat (first | apply Kd.R_alloc | apply Kd.R_drewN | apply Kd.R_drew)); exact HO_10.out))) (keep_size (w := w) (g := g) (row := none) (by repeat (first | (with_reducible first | exact HK.out | apply KeepBut.set_ | apply keep_drewN | apply keep_drew | apply keep_alloc) | exact HK.out)))); have n3_ := Aside0.mk (IsS119.below (by repeat (first | (with_reducible first | exact HI0.out | apply IsS119.alloc | apply IsS119.drewN | apply IsS119.drew | apply IsS119.set_1) | exact HI0.out)) hb); have n4_ := Aside0.mk (KeepBut.trans (by repeat (first | (with_reducible first | exact HK.out | apply KeepBut.set_ | apply keep_drewN | apply keep_drew | apply keep_alloc) | exact HK.out)) (KeepBut.of_below hb g none) (.inl rfl)); have n5_ := Aside0.mk (below_step (by repeat (first | (with_reducible first | exact HB.out | apply bwA | apply bwN | apply bwD | refine below_set ?_ (IsS119.ge HI0.out)) | exact HB.out)) hb); clear HO_9; clear HO_10; clear HI0; clear HK; clear HB; have HO_9 := n0_; have HO_10 := n1_; have HO296 := n2_; have HI0 := n3_; have HK := n4_; have HB := n5_; clear n0_ n1_ n2_ n3_ n4_ n5_; clear hb ho132; obtain ⟨Ao133, co133, eo133⟩ := Kd.R_slice HO296.out; subst eo133) | ((with_reducible refine gate_callee (f := 60) rfl ?_); refine goesL_ (some 110) rfl rfl Try.func60 (by kernel_rfl) rfl #[.pointer (some ⟨g, 0, none⟩), .slice Ao133 y294.length co133] rfl (by (try simp only [List.map_toArray, List.map_cons, List.map_nil]); first | done | rfl | (simp only [List.length_drop, List.length_take]; rfl)) ?_; (with_reducible refine (spec_l40Rd_num.calls kj119 g s0_0 x1001_1 _ _ y294 t297 t298 w0 _ ?side1 ?side2 ?side3 ?side4 ?side5 A128.out).mono ?_); (case side1 => repeat (first | (with_reducible first | exact HI0.out | apply IsS119.alloc | apply IsS119.drewN | apply IsS119.drew | apply IsS119.set_1) | exact HI0.out)); (case side2 => repeat (first | (with_reducible first | exact HB.out | apply bwA | apply bwN | apply bwD | refine below_set ?_ (IsS119.ge HI0.out)) | exact HB.out)); (case side3 => repeat (first | exact (Kd.R_reads' HO296.out).2.2 | (with_reducible refine Kd.C_alloc ?_ _) | (with_reducible refine Kd.C_drewN ?_ _) | (with_reducible refine Kd.C_drew ?_))); (case side4 => exact (Kd.R_reads' HO296.out).2.1); (case side5 => exact far_slice (IsS119.own_ne HI0.out HO296.out (by decide))); rintro e w134 ⟨rfl, hi, hb, hk⟩; refine ⟨_, rfl, ?_⟩; have n0_ := Aside0.mk (Kd.R_mono (Kd.R_keep (IsS119.apart (show IsS119 w0 _ g s0_0 x1001_1 from by repeat (first | (with_reducible first | exact HI0.out | apply IsS119.alloc | apply IsS119.drewN | apply IsS119.drew | apply IsS119.set_1) | exact HI0.out)) (by (with_reducible repeat (first | apply Kd.R_alloc | apply Kd.R_drewN | apply Kd.R_drew)); exact HO_9.out) (by decide)) hk (fun _ h => h.2)) (fun _ h => h.1)); have n1_ := Aside0.mk (Kd.R_mono (Kd.R_keep (IsS119.apart (show IsS119 w0 _ g s0_0 x1001_1 from by repeat (first | (with_reducible first | exact HI0.out | apply IsS119.alloc | apply IsS119.drewN | apply IsS119.drew | apply IsS119.set_1) | exact HI0.out)) (by (with_reducible repeat (first | apply Kd.R_alloc | apply Kd.R_drewN | apply Kd.R_drew)); exact HO_10.out) (by decide)) hk (fun _ h => h.2)) (fun _ h => h.1)); have n2_ := Aside0.mk (Kd.R_mono (Kd.R_keep (IsS119.apart (show IsS119 w0 _ g s0_0 x1001_1 from by repeat (first | (with_reducible first | exact HI0.out | apply IsS119.alloc | apply IsS119.drewN | apply IsS119.drew | apply IsS119.set_1) | exact HI0.out)) (by (with_reducible repeat (first | apply Kd.R_alloc | apply Kd.R_drewN | apply Kd.R_drew)); exact HO296.out) (by decide)) hk (fun _ h => h.2)) (fun _ h => h.1)); have n3_ := Aside0.mk (KeepBut.trans (by repeat (first | (with_reducible first | exact HK.out | apply KeepBut.set_ | apply keep_drewN | apply keep_drew | apply keep_alloc) | exact HK.out)) hk (.inl rfl)); have n4_ := Aside0.mk (hb); have n5_ := Aside0.mk (hi); clear HO_9; clear HO_10; clear HO296; clear HK; clear HB; clear HI0; have HO_9 := n0_; have HO_10 := n1_; have HO296 := n2_; have HK := n3_; have HB := n4_; have HI0 := n5_; clear n0_ n1_ n2_ n3_ n4_ n5_; (try clear hb); (try clear hb2); (try clear hk); (try clear hi); obtain ⟨Ao135, co135, eo135⟩ := Kd.R_slice HO_10.out; subst eo135) | ((with_reducible refine gate_callee (f := 108) rfl ?_); refine goesL_ (some 114) rfl rfl Try.func108 (by kernel_rfl) rfl #[.pointer (some ⟨g, 0, none⟩), .slice Ao135 x10_112.length co135, .int .i64 1] rfl (by (try simp only [List.map_toArray, List.map_cons, List.map_nil]); first | done | rfl | (simp only [List.length_drop, List.length_take]; rfl)) ?_; (with_reducible refine (spec_l1Pick.calls kj119 g s0_0 t298 _ _ x10_112 1 t299 t300 w0 _ ?side1 ?side2 ?side3 ?side4 ?side5 A129.out).mono ?_); (case side1 => repeat (first | (with_reducible first | exact HI0.out | apply IsS119.alloc | apply IsS119.drewN | apply IsS119.drew | apply IsS119.set_1) | exact HI0.out)); (case side2 => repeat (first | (with_reducible first | exact HB.out | apply bwA | apply bwN | apply bwD | refine below_set ?_ (IsS119.ge HI0.out)) | exact HB.out)); (case side3 => repeat (first | exact (Kd.R_reads' HO_10.out).2.2 | (with_reducible refine Kd.C_alloc ?_ _) | (with_reducible refine Kd.C_drewN ?_ _) | (with_reducible refine Kd.C_drew ?_))); (case side4 => exact (Kd.R_reads' HO_10.out).2.1); (case side5 => exact far_slice (IsS119.own_ne HI0.out HO_10.out (by decide))); rintro e w136 ⟨rfl, hi, hb, hk⟩; refine ⟨_, rfl, ?_⟩; have n0_ := Aside0.mk (Kd.R_mono (Kd.R_keep (IsS119.apart (show IsS119 w0 _ g s0_0 t298 from by repeat (first | (with_reducible first | exact HI0.out | apply IsS119.alloc | apply IsS119.drewN | apply IsS119.drew | apply IsS119.set_1) | exact HI0.out)) (by (with_reducible repeat (first | apply Kd.R_alloc | apply Kd.R_drewN | apply Kd.R_drew)); exact HO_9.out) (by decide)) hk (fun _ h => h.2)) (fun _ h => h.1)); have n1_ := Aside0.mk (Kd.R_mono (Kd.R_keep (IsS119.apart (show IsS119 w0 _ g s0_0 t298 from by repeat (first | (with_reducible first | exact HI0.out | apply IsS119.alloc | apply IsS119.drewN | apply IsS119.drew | apply IsS119.set_1) | exact HI0.out)) (by (with_reducible repeat (first | apply Kd.R_alloc | apply Kd.R_drewN | apply Kd.R_drew)); exact HO_10.out) (by decide)) hk (fun _ h => h.2)) (fun _ h => h.1)); have n2_ := Aside0.mk (Kd.R_mono (Kd.R_keep (IsS119.apart (show IsS119 w0 _ g s0_0 t298 from by repeat (first | (with_reducible first | exact HI0.out | apply IsS119.alloc | apply IsS119.drewN | apply IsS119.drew | apply IsS119.set_1) | exact HI0.out)) (by (with_reducible repeat (first | apply Kd.R_alloc | apply Kd.R_drewN | apply Kd.R_drew)); exact HO296.out) (by decide)) hk (fun _ h => h.2)) (fun _ h => h.1)); have n3_ := Aside0.mk (KeepBut.trans (by repeat (first | (with_reducible first | exact HK.out | apply KeepBut.set_ | apply keep_drewN | apply keep_drew | apply keep_alloc) | exact HK.out)) hk (.inl rfl)); have n4_ := Aside0.mk (hb); have n5_ := Aside0.mk (hi); clear HO_9; clear HO_10; clear HO296; clear HK; clear HB; clear HI0; have HO_9 := n0_; have HO_10 := n1_; have HO296 := n2_; have HK := n3_; have HB := n4_; have HI0 := n5_; clear n0_ n1_ n2_ n3_ n4_ n5_; (try clear hb); (try clear hb2); (try clear hk); (try clear hi)) | ((with_reducible refine gate_builtin (b := .append) (xs := #[.tmp 107, .tmp 116]) rfl ?_); at_builtin; refine Kd.R_append k73 w.heap.size rfl (.tmp 107) (.tmp 116) 27 73 (.agg #[(.int .i64 0), (.int .i64 0), (.int .i64 0), (.int .i64 0)]) 32 rfl Try.underlying27 info73 rfl (by decide) (by omega) (.slice Ao121 x9_112.length co121) x9_112 (⟨t297, 0, (wrap64 ((x9_112.length : Int) - 1)), t299⟩ : S73) [.int .i64 t297, .int .i64 0, .int .i64 (wrap64 ((x9_112.length : Int) - 1)), .int .i64 t299] (fun _ => True) (fun _ => False) rfl rfl ?aP (fun _ hk => hk.elim) ?aF ?aO (Below.refl _ _) ?aS ?aL ?_; (case aP => exact k73_mkM _ _ _ (⟨t297, 0, (wrap64 ((x9_112.length : Int) - 1)), t299⟩ : S73)); (case aF => exact (fun _ _ => trivial)); (case aO => exact (by (with_reducible repeat (first | apply Kd.R_alloc | apply Kd.R_drewN | apply Kd.R_drew)); exact HO_9.out)); (case aS => exact (keep_size (w := w) (g := g) (row := none) (by repeat (first | (with_reducible first | exact HK.out | apply KeepBut.set_ | apply keep_drewN | apply keep_drew | apply keep_alloc) | exact HK.out)))); (case aL => have := LMc130.out; omega); intro v302 w137 ho hb hg hat; rw [← Ny301.out] at ho; have n0_ := Aside0.mk (Kd.R_over' (by (with_reducible repeat (first | apply Kd.R_alloc | apply Kd.R_drewN | apply Kd.R_drew)); exact HO_10.out) (Kd.R_typed (by (with_reducible repeat (first | apply Kd.R_alloc | apply Kd.R_drewN | apply Kd.R_drew)); exact HO_9.out)) (by decide) hg); have n1_ := Aside0.mk (IsS119.grown (by repeat (first | (with_reducible first | exact HI0.out | apply IsS119.alloc | apply IsS119.drewN | apply IsS119.drew | apply IsS119.set_1) | exact HI0.out)) hg (IsS119.own_ne HI0.out HO_9.out (by decide))); have n2_ := Aside0.mk (Kd.R_over' (by (with_reducible repeat (first | apply Kd.R_alloc | apply Kd.R_drewN | apply Kd.R_drew)); exact HO296.out) (Kd.R_typed (by (with_reducible repeat (first | apply Kd.R_alloc | apply Kd.R_drewN | apply Kd.R_drew)); exact HO_9.out)) (by decide) hg); have n3_ := Aside0.mk (below_weaken (by repeat (first | (with_reducible first | exact HB.out | apply bwA | apply bwN | apply bwD | refine below_set ?_ (IsS119.ge HI0.out)) | exact HB.out)) HL.out hb); have n4_ := Aside0.mk (KeepBut.trans (by repeat (first | (with_reducible first | exact HK.out | apply KeepBut.set_ | apply keep_drewN | apply keep_drew | apply keep_alloc) | exact HK.out)) (KeepBut.of_grown hg g) (Kd.R_base2 HO_9.out)); have n5_ := Aside0.mk (ho); clear HO_10; clear HI0; clear HO296; clear HB; clear HK; clear HO_9; have HO_10 := n0_; have HI0 := n1_; have HO296 := n2_; have HB := n3_; have HK := n4_; have HO303 := n5_; clear n0_ n1_ n2_ n3_ n4_ n5_; clear ho hb hg hat))
          go_ret
          exact ⟨_, by first | rfl | (simp [errW_none, errW_some] <;> rfl) | (simp [*, errW_none, errW_some] <;> rfl), by (with_reducible repeat (first | apply Kd.R_alloc | apply Kd.R_drewN | apply Kd.R_drew)); exact HO303.out, by repeat (first | (with_reducible first | exact HI0.out | apply IsS119.alloc | apply IsS119.drewN | apply IsS119.drew | apply IsS119.set_1) | exact HI0.out), by repeat (first | (with_reducible first | exact HB.out | apply bwA | apply bwN | apply bwD | refine below_set ?_ (IsS119.ge HI0.out)) | exact HB.out), by repeat (first | (with_reducible first | exact HK.out | apply KeepBut.set_ | apply keep_drewN | apply keep_drew | apply keep_alloc) | exact HK.out)⟩
         ·rw [if_neg c130] at H
          exact absurd H (by simp)
        ·replace c127 := Bool.eq_false_iff.mpr c127
         subst c127
         have H1 : (if a2 = 1 then (if 0 ≤ (wrap64 ((x9_112.length : Int) - 1)) then (if (wrap64 ((x9_112.length : Int) - 1)) < (x10_112.length : Int) then (spec_l1Terms.j6 kj119 x9_112 x10_112 ((rd x10_112 (wrap64 ((x9_112.length : Int) - 1))) != a2) s0_0 x1001_1) else (none)) else (none)) else (spec_l1Terms.j6 kj119 x9_112 x10_112 false s0_0 x1001_1)) = some (r1, r2) := by rw [if_neg (show ¬ (false = true) by decide)] at H; exact H
         clear H
         have H := H1
         clear H1
         have HC138 := Aside0.mk H
         clear H
         go_upto_region 29 with (fail)
         go_cut [127] (fun v127 wc => ∃ (kq : Nat) (x127_137 : Bool), v127 = .bool x127_137 ∧ Aside0 (spec_l1Terms.j6 kq x9_112 x10_112 x127_137 s0_0 x1001_1 = some (r1, r2)) ∧ Aside0 (kq ≤ kj119) ∧ Aside0 (Kd.R k73 73 wc w.heap.size (fun _ => True) (.slice Ao121 x9_112.length co121) x9_112) ∧ Aside0 (Kd.R (Kd.int .i64) 3 wc w.heap.size (fun _ => True) u10 x10_112) ∧ Aside0 (IsS119 w0 wc g s0_0 x1001_1) ∧ Aside0 (KeepBut w wc g none) ∧ Aside0 (Below w0.heap.size w0 wc))
         case first =>
          have H := HC138.out
          clear HC138
          by_cases c139 : a2 = 1
          ·rw [if_pos c139] at H
           have c139b0 : (a2 == 1) = true := beq_iff_eq.mpr c139
           have c139b1 : (a2 != 1) = false := bne_eq_false_iff_eq.mpr c139
           clear c139
           (first | rw [c139b0] | (simp only [i64_w, i32_w]; rw [c139b0]) | skip)
           obtain ⟨ji140, hji140⟩ : ∃ j_ : Int, (wrap64 ((x9_112.length : Int) - 1)) = j_ := ⟨_, rfl⟩
           replace H : (if 0 ≤ (ji140) then (if (ji140) < (x10_112.length : Int) then (spec_l1Terms.j6 kj119 x9_112 x10_112 ((rd x10_112 (ji140)) != a2) s0_0 x1001_1) else (none)) else (none)) = some (r1, r2) := by first | (rw [hji140] at H; exact H) | (simp only [hji140] at H ⊢; exact H)
           have hji140w : (IntKind.i64.wrap ((x9_112.length : Int) - 1)) = ji140 := (i64_w _).trans hji140
           by_cases c141 : 0 ≤ (ji140)
           ·rw [if_pos c141] at H
            have c141b0 : decide (0 ≤ (ji140)) = true := decide_eq_true c141
            clear c141
            by_cases c142 : (ji140) < (x10_112.length : Int)
            ·rw [if_pos c142] at H
             have c142b0 : decide ((ji140) < (x10_112.length : Int)) = true := decide_eq_true c142
             clear c142
             have H' := Aside0.mk H
             clear H
             obtain ⟨Ao143, co143, eo143⟩ := Kd.R_slice HO_10.out
             subst eo143
             have p304 : 0 ≤ ((ji140) : Int) := of_decide_eq_true (by first | (with_reducible assumption) | assumption)
             have q304 : (ji140) < (x10_112.length : Int) := of_decide_eq_true (by first | (with_reducible assumption) | assumption)
             obtain ⟨ad304, e304, hx304_0⟩ := Kd.at_int (Kd.R_reads' HO_10.out).2.2 (ji140) p304 q304
             cases e304
             replace p304 := eq_true p304
             replace q304 := eq_true q304
             go_wp2
             (try subst hji140)
             go_meet
             case rel => exact ⟨_, (((rd x10_112 (wrap64 ((x9_112.length : Int) - 1))) != a2)), (by first | rfl | (simp; done) | (simp only [← hji140] <;> (first | rfl | simp)) | (simp [*]; done)), H', ⟨by have := HK1.out; have := HJ112.out; have := HJ119.out; first | omega | exact Nat.le_refl _⟩, ⟨by (with_reducible repeat (first | apply Kd.R_alloc | apply Kd.R_drewN | apply Kd.R_drew)); exact HO_9.out⟩, ⟨by (with_reducible repeat (first | apply Kd.R_alloc | apply Kd.R_drewN | apply Kd.R_drew)); exact HO_10.out⟩, ⟨by repeat (first | (with_reducible first | exact HI0.out | apply IsS119.alloc | apply IsS119.drewN | apply IsS119.drew | apply IsS119.set_1) | exact HI0.out)⟩, ⟨by repeat (first | (with_reducible first | exact HK.out | apply KeepBut.set_ | apply keep_drewN | apply keep_drew | apply keep_alloc) | exact HK.out)⟩, ⟨by repeat (first | (with_reducible first | exact HB.out | apply bwA | apply bwN | apply bwD | refine below_set ?_ (IsS119.ge HI0.out)) | exact HB.out)⟩⟩
            ·rw [if_neg c142] at H
             exact absurd H (by simp)
           ·rw [if_neg c141] at H
            exact absurd H (by simp)
          ·rw [if_neg c139] at H
           have c139b0 : (a2 == 1) = false := beq_eq_false_iff_ne.mpr c139
           have c139b1 : (a2 != 1) = true := bne_iff_ne.mpr c139
           (first | rw [c139b0] | (simp only [i64_w, i32_w]; rw [c139b0]) | skip)
           have H' := Aside0.mk H
           clear H
           go_wp2
           go_meet
           case rel => exact ⟨_, (false), (by first | rfl | (simp; done) | (simp [*]; done)), H', ⟨by have := HK1.out; have := HJ112.out; have := HJ119.out; first | omega | exact Nat.le_refl _⟩, ⟨by (with_reducible repeat (first | apply Kd.R_alloc | apply Kd.R_drewN | apply Kd.R_drew)); exact HO_9.out⟩, ⟨by (with_reducible repeat (first | apply Kd.R_alloc | apply Kd.R_drewN | apply Kd.R_drew)); exact HO_10.out⟩, ⟨by repeat (first | (with_reducible first | exact HI0.out | apply IsS119.alloc | apply IsS119.drewN | apply IsS119.drew | apply IsS119.set_1) | exact HI0.out)⟩, ⟨by repeat (first | (with_reducible first | exact HK.out | apply KeepBut.set_ | apply keep_drewN | apply keep_drew | apply keep_alloc) | exact HK.out)⟩, ⟨by repeat (first | (with_reducible first | exact HB.out | apply bwA | apply bwN | apply bwD | refine below_set ?_ (IsS119.ge HI0.out)) | exact HB.out)⟩⟩
         case rest =>
          clear HC138
          try clear c1
          try clear c2
          try clear p2
          try clear q2
          try clear hx2
          try clear c3
          try clear p3
          try clear q3
          try clear hx3
          try clear c4
          try clear c5
          try clear c6
          try clear p6
          try clear c7
          try clear c8
          try clear c9
          try clear c10
          try clear c11
          try clear c11b0
          try clear c12
          try clear c13
          try clear c14
          try clear c19
          try clear c21
          try clear c21b0
          try clear c21b1
          try clear c21b2
          try clear c24
          try clear c28
          try clear p29
          try clear q29
          try clear hx29
          try clear c30
          try clear c30b0
          try clear p30
          try clear q30
          try clear hx30
          try clear c31
          try clear c34
          try clear c34b0
          try clear c34b1
          try clear c36
          try clear c40
          try clear c41
          try clear c43
          try clear c51
          try clear c51b0
          try clear c51b1
          try clear c52
          try clear c56
          try clear c57
          try clear c58
          try clear c60
          try clear p64
          try clear c66
          try clear c66b0
          try clear c67
          try clear c70
          try clear c72
          try clear c72b0
          try clear c72b1
          try clear c75
          try clear c80
          try clear c81
          try clear c84
          try clear c93
          try clear c93b0
          try clear c93b1
          try clear c96
          try clear c101
          try clear c102
          try clear c105
          try clear c106
          try clear c107
          try clear c108
          try clear c115
          try clear c115b0
          try clear c115b1
          try clear c115b2
          try clear c116
          try clear c117
          try clear c122
          try clear c122b0
          try clear c122b1
          try clear c124
          try clear c124b0
          try clear c125
          try clear c125b0
          try clear c127
          try clear c130
          try clear c139
          try clear c139b0
          try clear c139b1
          try clear c141
          try clear c141b0
          try clear c142
          try clear c142b0
          try clear hcz106_0
          try clear hcz106_1
          try clear hcz106_2
          try clear hcz106_3
          try clear hcz108_0
          try clear hcz108_1
          try clear hcz108_2
          try clear hcz108_3
          try clear hcz110_0
          try clear hcz110_1
          try clear hcz110_2
          try clear hcz110_3
          try clear hcz20_0
          try clear hcz20_1
          try clear hcz20_2
          try clear hcz20_3
          try clear hcz29_0
          try clear hcz29_1
          try clear hcz29_2
          try clear hcz29_3
          try clear hcz37_0
          try clear hcz37_1
          try clear hcz37_2
          try clear hcz37_3
          try clear hcz44_0
          try clear hcz44_1
          try clear hcz44_2
          try clear hcz44_3
          try clear hcz47_0
          try clear hcz47_1
          try clear hcz47_2
          try clear hcz47_3
          try clear hcz53_0
          try clear hcz53_1
          try clear hcz53_2
          try clear hcz53_3
          try clear hcz59_0
          try clear hcz59_1
          try clear hcz59_2
          try clear hcz59_3
          try clear hcz62_0
          try clear hcz62_1
          try clear hcz62_2
          try clear hcz62_3
          try clear hcz76_0
          try clear hcz76_1
          try clear hcz76_2
          try clear hcz76_3
          try clear hcz78_0
          try clear hcz78_1
          try clear hcz78_2
          try clear hcz78_3
          try clear hcz85_0
          try clear hcz85_1
          try clear hcz85_2
          try clear hcz85_3
          try clear hcz87_0
          try clear hcz87_1
          try clear hcz87_2
          try clear hcz87_3
          try clear hcz89_0
          try clear hcz89_1
          try clear hcz89_2
          try clear hcz89_3
          try clear hcz97_0
          try clear hcz97_1
          try clear hcz97_2
          try clear hcz97_3
          try clear hcz99_0
          try clear hcz99_1
          try clear hcz99_2
          try clear hcz99_3
          try clear hfz106_0
          try clear hfz106_1
          try clear hfz106_2
          try clear hfz106_3
          try clear hfz108_0
          try clear hfz108_1
          try clear hfz108_2
          try clear hfz108_3
          try clear hfz110_0
          try clear hfz110_1
          try clear hfz110_2
          try clear hfz110_3
          try clear hfz20_0
          try clear hfz20_1
          try clear hfz20_2
          try clear hfz20_3
          try clear hfz29_0
          try clear hfz29_1
          try clear hfz29_2
          try clear hfz29_3
          try clear hfz37_0
          try clear hfz37_1
          try clear hfz37_2
          try clear hfz37_3
          try clear hfz44_0
          try clear hfz44_1
          try clear hfz44_2
          try clear hfz44_3
          try clear hfz47_0
          try clear hfz47_1
          try clear hfz47_2
          try clear hfz47_3
          try clear hfz53_0
          try clear hfz53_1
          try clear hfz53_2
          try clear hfz53_3
          try clear hfz59_0
          try clear hfz59_1
          try clear hfz59_2
          try clear hfz59_3
          try clear hfz62_0
          try clear hfz62_1
          try clear hfz62_2
          try clear hfz62_3
          try clear hfz76_0
          try clear hfz76_1
          try clear hfz76_2
          try clear hfz76_3
          try clear hfz78_0
          try clear hfz78_1
          try clear hfz78_2
          try clear hfz78_3
          try clear hfz85_0
          try clear hfz85_1
          try clear hfz85_2
          try clear hfz85_3
          try clear hfz87_0
          try clear hfz87_1
          try clear hfz87_2
          try clear hfz87_3
          try clear hfz89_0
          try clear hfz89_1
          try clear hfz89_2
          try clear hfz89_3
          try clear hfz97_0
          try clear hfz97_1
          try clear hfz97_2
          try clear hfz97_3
          try clear hfz99_0
          try clear hfz99_1
          try clear hfz99_2
          try clear hfz99_3
          try clear hx293_0
          try clear hx304_0
          try clear p2
          try clear p29
          try clear p293
          try clear p304
          try clear p6
          try clear p64
          try clear q2
          try clear q29
          try clear q293
          try clear q304
          obtain ⟨kq, x127_137, rfl, HA, HJ137, HO_9, HO_10, HI0, HK, HB⟩ := hcut
          cases kq with
          | zero => exact absurd HA.out (by simp [spec_l1Terms.j6])
          | succ kj137 =>
           have H := HA.out
           clear HA
           simp only [spec_l1Terms.j6] at H
           by_cases c144 : x127_137 = true
           ·subst c144
            have H1 : ((spec_l1Pick.f kj137 s0_0 x1001_1 x10_112 1).bind fun bt305 => ((spec_l40Rd_num.f kj137 s0_0 bt305.2 (([2, 3] : List Int))).bind fun bt310 => ((spec_l1Pick.f kj137 s0_0 bt310.2 x10_112 1).bind fun bt312 => (if x9_112.length < 4398046511104 then (some ((x9_112 ++ [(⟨bt310.1, 0, bt305.1, bt312.1⟩ : S73)]), bt312.2)) else (none))))) = some (r1, r2) := by rw [if_pos rfl] at H; exact H
            clear H
            have H := H1
            clear H1
            replace H := Option.bind_eq_some_iff.mp H
            obtain ⟨⟨t305, t306⟩, A1450, H⟩ := H
            replace H : ((spec_l40Rd_num.f kj137 s0_0 t306 (([2, 3] : List Int))).bind fun bt310 => ((spec_l1Pick.f kj137 s0_0 bt310.2 x10_112 1).bind fun bt312 => (if x9_112.length < 4398046511104 then (some ((x9_112 ++ [(⟨bt310.1, 0, t305, bt312.1⟩ : S73)]), bt312.2)) else (none)))) = some (r1, r2) := H
            have A145 := Aside0.mk A1450
            clear A1450
            obtain ⟨y307, hy307⟩ : ∃ y_ : List Int, y_ = (([2, 3] : List Int)) := ⟨_, rfl⟩
            replace H : ((spec_l40Rd_num.f kj137 s0_0 t306 y307).bind fun bt310 => ((spec_l1Pick.f kj137 s0_0 bt310.2 x10_112 1).bind fun bt312 => (if x9_112.length < 4398046511104 then (some ((x9_112 ++ [(⟨bt310.1, 0, t305, bt312.1⟩ : S73)]), bt312.2)) else (none)))) = some (r1, r2) := by first | (rw [hy307]; with_reducible exact H) | (have H2_ := (Option.bind_some _ _).symm.trans H; rw [hy307]; with_reducible exact H2_) | (have H2_ := (Option.bind_some _ _).symm.trans H; with_reducible exact H2_) | with_reducible exact H | (rw [hy307]; exact H) | exact H
            have Ny307 := Aside0.mk hy307
            clear hy307
            replace H := Option.bind_eq_some_iff.mp H
            obtain ⟨⟨t310, t311⟩, A1460, H⟩ := H
            replace H : ((spec_l1Pick.f kj137 s0_0 t311 x10_112 1).bind fun bt312 => (if x9_112.length < 4398046511104 then (some ((x9_112 ++ [(⟨t310, 0, t305, bt312.1⟩ : S73)]), bt312.2)) else (none))) = some (r1, r2) := H
            have A146 := Aside0.mk A1460
            clear A1460
            replace H := Option.bind_eq_some_iff.mp H
            obtain ⟨⟨t312, t313⟩, A1470, H⟩ := H
            replace H : (if x9_112.length < 4398046511104 then (some ((x9_112 ++ [(⟨t310, 0, t305, t312⟩ : S73)]), t313)) else (none)) = some (r1, r2) := H
            have A147 := Aside0.mk A1470
            clear A1470
            by_cases c148 : x9_112.length < 4398046511104
            ·rw [if_pos c148] at H
             have LMc148 := Aside0.mk c148
             clear c148
             obtain ⟨y314, hy314⟩ : ∃ y_ : List (S73), y_ = (x9_112 ++ [(⟨t310, 0, t305, t312⟩ : S73)]) := ⟨_, rfl⟩
             replace H : (some (y314, t313)) = some (r1, r2) := by first | (rw [hy314]; with_reducible exact H) | (have H2_ := (Option.bind_some _ _).symm.trans H; rw [hy314]; with_reducible exact H2_) | (have H2_ := (Option.bind_some _ _).symm.trans H; with_reducible exact H2_) | with_reducible exact H | (rw [hy314]; exact H) | exact H
             have Ny314 := Aside0.mk hy314
             clear hy314
             simp only [Option.some.injEq, Prod.mk.injEq] at H
             obtain ⟨rfl, rfl⟩ := H
             obtain ⟨Ao149, co149, eo149⟩ := Kd.R_slice HO_10.out
             subst eo149
             go_wp2_with (first | ((with_reducible refine gate_callee (f := 108) rfl ?_); refine goesL_ (some 130) rfl rfl Try.func108 (by kernel_rfl) rfl #[.pointer (some ⟨g, 0, none⟩), .slice Ao149 x10_112.length co149, .int .i64 1] rfl (by (try simp only [List.map_toArray, List.map_cons, List.map_nil]); first | done | rfl | (simp only [List.length_drop, List.length_take]; rfl)) ?_; (with_reducible refine (spec_l1Pick.calls kj137 g s0_0 x1001_1 _ _ x10_112 1 t305 t306 w0 _ ?side1 ?side2 ?side3 ?side4 ?side5 A145.out).mono ?_); (case side1 => repeat (first | (with_reducible first | exact HI0.out | apply IsS119.alloc | apply IsS119.drewN | apply IsS119.drew | apply IsS119.set_1) | exact HI0.out)); (case side2 => repeat (first | (with_reducible first | exact HB.out | apply bwA | apply bwN | apply bwD | refine below_set ?_ (IsS119.ge HI0.out)) | exact HB.out)); (case side3 => repeat (first | exact (Kd.R_reads' HO_10.out).2.2 | (with_reducible refine Kd.C_alloc ?_ _) | (with_reducible refine Kd.C_drewN ?_ _) | (with_reducible refine Kd.C_drew ?_))); (case side4 => exact (Kd.R_reads' HO_10.out).2.1); (case side5 => exact far_slice (IsS119.own_ne HI0.out HO_10.out (by decide))); rintro e w150 ⟨rfl, hi, hb, hk⟩; refine ⟨_, rfl, ?_⟩; have n0_ := Aside0.mk (Kd.R_mono (Kd.R_keep (IsS119.apart (show IsS119 w0 _ g s0_0 x1001_1 from by repeat (first | (with_reducible first | exact HI0.out | apply IsS119.alloc | apply IsS119.drewN | apply IsS119.drew | apply IsS119.set_1) | exact HI0.out)) (by (with_reducible repeat (first | apply Kd.R_alloc | apply Kd.R_drewN | apply Kd.R_drew)); exact HO_9.out) (by decide)) hk (fun _ h => h.2)) (fun _ h => h.1)); have n1_ := Aside0.mk (Kd.R_mono (Kd.R_keep (IsS119.apart (show IsS119 w0 _ g s0_0 x1001_1 from by repeat (first | (with_reducible first | exact HI0.out | apply IsS119.alloc | apply IsS119.drewN | apply IsS119.drew | apply IsS119.set_1) | exact HI0.out)) (by (with_reducible repeat (first | apply Kd.R_alloc | apply Kd.R_drewN | apply Kd.R_drew)); exact HO_10.out) (by decide)) hk (fun _ h => h.2)) (fun _ h => h.1)); have n2_ := Aside0.mk (KeepBut.trans (by repeat (first | (with_reducible first | exact HK.out | apply KeepBut.set_ | apply keep_drewN | apply keep_drew | apply keep_alloc) | exact HK.out)) hk (.inl rfl)); have n3_ := Aside0.mk (hb); have n4_ := Aside0.mk (hi); clear HO_9; clear HO_10; clear HK; clear HB; clear HI0; have HO_9 := n0_; have HO_10 := n1_; have HK := n2_; have HB := n3_; have HI0 := n4_; clear n0_ n1_ n2_ n3_ n4_; (try clear hb); (try clear hb2); (try clear hk); (try clear hi)) | ((with_reducible refine gate_dst (N := 133) rfl ?_); refine Kd.R_lit (Kd.int .i64) _ 3 ?hg (N := 133) ?hd (xs := ([2, 3] : List Int)) (inner := [.int .i64 2, .int .i64 3]) (ok := fun _ => True) (okp := fun _ => True) ?hr ?hp (fun _ hk => hk) trivial (Below.refl _ _) (Nat.le_refl _) (by simp) ?_; (case hd => rfl); (case hg => rfl); (case hr => first | (go_simp; done) | (go_simp; rfl)); (case hp => exact (Reps.one (show Kd.M (Kd.int .i64) _ _ _ 2 [.int .i64 2] from rfl) (Reps.one (show Kd.M (Kd.int .i64) _ _ _ 3 [.int .i64 3] from rfl) (Reps.none _ _)))); intro v308 w151 ho152 hb hg_ hnew_; clear hg_ hnew_; (first | rw [← Ny307.out] at ho152 | (simp only [Int.reduceToNat] at ho152; rw [← Ny307.out] at ho152)); have n0_ := Aside0.mk (Kd.R_below (by (with_reducible repeat (first | apply Kd.R_alloc | apply Kd.R_drewN | apply Kd.R_drew)); exact HO_9.out) hb); have n1_ := Aside0.mk (Kd.R_elder' (by (with_reducible repeat (first | apply Kd.R_alloc | apply Kd.R_drewN | apply Kd.R_drew)); exact HO_10.out) (Kd.R_base ho152) hb); have n2_ := Aside0.mk (Kd.R_lower (Kd.R_new' ho152 (Kd.R_lt (by (with_reducible repeat (first | apply Kd.R_alloc | apply Kd.R_drewN | apply Kd.R_drew)); exact HO_10.out))) (keep_size (w := w) (g := g) (row := none) (by repeat (first | (with_reducible first | exact HK.out | apply KeepBut.set_ | apply keep_drewN | apply keep_drew | apply keep_alloc) | exact HK.out)))); have n3_ := Aside0.mk (IsS119.below (by repeat (first | (with_reducible first | exact HI0.out | apply IsS119.alloc | apply IsS119.drewN | apply IsS119.drew | apply IsS119.set_1) | exact HI0.out)) hb); have n4_ := Aside0.mk (KeepBut.trans (by repeat (first | (with_reducible first | exact HK.out | apply KeepBut.set_ | apply keep_drewN | apply keep_drew | apply keep_alloc) | exact HK.out)) (KeepBut.of_below hb g none) (.inl rfl)); have n5_ := Aside0.mk (below_step (by repeat (first | (with_reducible first | exact HB.out | apply bwA | apply bwN | apply bwD | refine below_set ?_ (IsS119.ge HI0.out)) | exact HB.out)) hb); clear HO_9; clear HO_10; clear HI0; clear HK; clear HB; have HO_9 := n0_; have HO_10 := n1_; have HO309 := n2_; have HI0 := n3_; have HK := n4_; have HB := n5_; clear n0_ n1_ n2_ n3_ n4_ n5_; clear hb ho152; obtain ⟨Ao153, co153, eo153⟩ := Kd.R_slice HO309.out; subst eo153) | ((with_reducible refine gate_callee (f := 60) rfl ?_); refine goesL_ (some 134) rfl rfl Try.func60 (by kernel_rfl) rfl #[.pointer (some ⟨g, 0, none⟩), .slice Ao153 y307.length co153] rfl (by (try simp only [List.map_toArray, List.map_cons, List.map_nil]); first | done | rfl | (simp only [List.length_drop, List.length_take]; rfl)) ?_; (with_reducible refine (spec_l40Rd_num.calls kj137 g s0_0 t306 _ _ y307 t310 t311 w0 _ ?side1 ?side2 ?side3 ?side4 ?side5 A146.out).mono ?_); (case side1 => repeat (first | (with_reducible first | exact HI0.out | apply IsS119.alloc | apply IsS119.drewN | apply IsS119.drew | apply IsS119.set_1) | exact HI0.out)); (case side2 => repeat (first | (with_reducible first | exact HB.out | apply bwA | apply bwN | apply bwD | refine below_set ?_ (IsS119.ge HI0.out)) | exact HB.out)); (case side3 => repeat (first | exact (Kd.R_reads' HO309.out).2.2 | (with_reducible refine Kd.C_alloc ?_ _) | (with_reducible refine Kd.C_drewN ?_ _) | (with_reducible refine Kd.C_drew ?_))); (case side4 => exact (Kd.R_reads' HO309.out).2.1); (case side5 => exact far_slice (IsS119.own_ne HI0.out HO309.out (by decide))); rintro e w154 ⟨rfl, hi, hb, hk⟩; refine ⟨_, rfl, ?_⟩; have n0_ := Aside0.mk (Kd.R_mono (Kd.R_keep (IsS119.apart (show IsS119 w0 _ g s0_0 t306 from by repeat (first | (with_reducible first | exact HI0.out | apply IsS119.alloc | apply IsS119.drewN | apply IsS119.drew | apply IsS119.set_1) | exact HI0.out)) (by (with_reducible repeat (first | apply Kd.R_alloc | apply Kd.R_drewN | apply Kd.R_drew)); exact HO_9.out) (by decide)) hk (fun _ h => h.2)) (fun _ h => h.1)); have n1_ := Aside0.mk (Kd.R_mono (Kd.R_keep (IsS119.apart (show IsS119 w0 _ g s0_0 t306 from by repeat (first | (with_reducible first | exact HI0.out | apply IsS119.alloc | apply IsS119.drewN | apply IsS119.drew | apply IsS119.set_1) | exact HI0.out)) (by (with_reducible repeat (first | apply Kd.R_alloc | apply Kd.R_drewN | apply Kd.R_drew)); exact HO_10.out) (by decide)) hk (fun _ h => h.2)) (fun _ h => h.1)); have n2_ := Aside0.mk (Kd.R_mono (Kd.R_keep (IsS119.apart (show IsS119 w0 _ g s0_0 t306 from by repeat (first | (with_reducible first | exact HI0.out | apply IsS119.alloc | apply IsS119.drewN | apply IsS119.drew | apply IsS119.set_1) | exact HI0.out)) (by (with_reducible repeat (first | apply Kd.R_alloc | apply Kd.R_drewN | apply Kd.R_drew)); exact HO309.out) (by decide)) hk (fun _ h => h.2)) (fun _ h => h.1)); have n3_ := Aside0.mk (KeepBut.trans (by repeat (first | (with_reducible first | exact HK.out | apply KeepBut.set_ | apply keep_drewN | apply keep_drew | apply keep_alloc) | exact HK.out)) hk (.inl rfl)); have n4_ := Aside0.mk (hb); have n5_ := Aside0.mk (hi); clear HO_9; clear HO_10; clear HO309; clear HK; clear HB; clear HI0; have HO_9 := n0_; have HO_10 := n1_; have HO309 := n2_; have HK := n3_; have HB := n4_; have HI0 := n5_; clear n0_ n1_ n2_ n3_ n4_ n5_; (try clear hb); (try clear hb2); (try clear hk); (try clear hi)) | ((with_reducible refine gate_callee (f := 108) rfl ?_); refine goesL_ (some 138) rfl rfl Try.func108 (by kernel_rfl) rfl #[.pointer (some ⟨g, 0, none⟩), .slice Ao149 x10_112.length co149, .int .i64 1] rfl (by (try simp only [List.map_toArray, List.map_cons, List.map_nil]); first | done | rfl | (simp only [List.length_drop, List.length_take]; rfl)) ?_; (with_reducible refine (spec_l1Pick.calls kj137 g s0_0 t311 _ _ x10_112 1 t312 t313 w0 _ ?side1 ?side2 ?side3 ?side4 ?side5 A147.out).mono ?_); (case side1 => repeat (first | (with_reducible first | exact HI0.out | apply IsS119.alloc | apply IsS119.drewN | apply IsS119.drew | apply IsS119.set_1) | exact HI0.out)); (case side2 => repeat (first | (with_reducible first | exact HB.out | apply bwA | apply bwN | apply bwD | refine below_set ?_ (IsS119.ge HI0.out)) | exact HB.out)); (case side3 => repeat (first | exact (Kd.R_reads' HO_10.out).2.2 | (with_reducible refine Kd.C_alloc ?_ _) | (with_reducible refine Kd.C_drewN ?_ _) | (with_reducible refine Kd.C_drew ?_))); (case side4 => exact (Kd.R_reads' HO_10.out).2.1); (case side5 => exact far_slice (IsS119.own_ne HI0.out HO_10.out (by decide))); rintro e w155 ⟨rfl, hi, hb, hk⟩; refine ⟨_, rfl, ?_⟩; have n0_ := Aside0.mk (Kd.R_mono (Kd.R_keep (IsS119.apart (show IsS119 w0 _ g s0_0 t311 from by repeat (first | (with_reducible first | exact HI0.out | apply IsS119.alloc | apply IsS119.drewN | apply IsS119.drew | apply IsS119.set_1) | exact HI0.out)) (by (with_reducible repeat (first | apply Kd.R_alloc | apply Kd.R_drewN | apply Kd.R_drew)); exact HO_9.out) (by decide)) hk (fun _ h => h.2)) (fun _ h => h.1)); have n1_ := Aside0.mk (Kd.R_mono (Kd.R_keep (IsS119.apart (show IsS119 w0 _ g s0_0 t311 from by repeat (first | (with_reducible first | exact HI0.out | apply IsS119.alloc | apply IsS119.drewN | apply IsS119.drew | apply IsS119.set_1) | exact HI0.out)) (by (with_reducible repeat (first | apply Kd.R_alloc | apply Kd.R_drewN | apply Kd.R_drew)); exact HO_10.out) (by decide)) hk (fun _ h => h.2)) (fun _ h => h.1)); have n2_ := Aside0.mk (Kd.R_mono (Kd.R_keep (IsS119.apart (show IsS119 w0 _ g s0_0 t311 from by repeat (first | (with_reducible first | exact HI0.out | apply IsS119.alloc | apply IsS119.drewN | apply IsS119.drew | apply IsS119.set_1) | exact HI0.out)) (by (with_reducible repeat (first | apply Kd.R_alloc | apply Kd.R_drewN | apply Kd.R_drew)); exact HO309.out) (by decide)) hk (fun _ h => h.2)) (fun _ h => h.1)); have n3_ := Aside0.mk (KeepBut.trans (by repeat (first | (with_reducible first | exact HK.out | apply KeepBut.set_ | apply keep_drewN | apply keep_drew | apply keep_alloc) | exact HK.out)) hk (.inl rfl)); have n4_ := Aside0.mk (hb); have n5_ := Aside0.mk (hi); clear HO_9; clear HO_10; clear HO309; clear HK; clear HB; clear HI0; have HO_9 := n0_; have HO_10 := n1_; have HO309 := n2_; have HK := n3_; have HB := n4_; have HI0 := n5_; clear n0_ n1_ n2_ n3_ n4_ n5_; (try clear hb); (try clear hb2); (try clear hk); (try clear hi)) | ((with_reducible refine gate_builtin (b := .append) (xs := #[.tmp 131, .tmp 140]) rfl ?_); at_builtin; refine Kd.R_append k73 w.heap.size rfl (.tmp 131) (.tmp 140) 27 73 (.agg #[(.int .i64 0), (.int .i64 0), (.int .i64 0), (.int .i64 0)]) 32 rfl Try.underlying27 info73 rfl (by decide) (by omega) (.slice Ao121 x9_112.length co121) x9_112 (⟨t310, 0, t305, t312⟩ : S73) [.int .i64 t310, .int .i64 0, .int .i64 t305, .int .i64 t312] (fun _ => True) (fun _ => False) rfl rfl ?aP (fun _ hk => hk.elim) ?aF ?aO (Below.refl _ _) ?aS ?aL ?_; (case aP => exact k73_mkM _ _ _ (⟨t310, 0, t305, t312⟩ : S73)); (case aF => exact (fun _ _ => trivial)); (case aO => exact (by (with_reducible repeat (first | apply Kd.R_alloc | apply Kd.R_drewN | apply Kd.R_drew)); exact HO_9.out)); (case aS => exact (keep_size (w := w) (g := g) (row := none) (by repeat (first | (with_reducible first | exact HK.out | apply KeepBut.set_ | apply keep_drewN | apply keep_drew | apply keep_alloc) | exact HK.out)))); (case aL => have := LMc148.out; omega); intro v315 w156 ho hb hg hat; rw [← Ny314.out] at ho; have n0_ := Aside0.mk (Kd.R_over' (by (with_reducible repeat (first | apply Kd.R_alloc | apply Kd.R_drewN | apply Kd.R_drew)); exact HO_10.out) (Kd.R_typed (by (with_reducible repeat (first | apply Kd.R_alloc | apply Kd.R_drewN | apply Kd.R_drew)); exact HO_9.out)) (by decide) hg); have n1_ := Aside0.mk (IsS119.grown (by repeat (first | (with_reducible first | exact HI0.out | apply IsS119.alloc | apply IsS119.drewN | apply IsS119.drew | apply IsS119.set_1) | exact HI0.out)) hg (IsS119.own_ne HI0.out HO_9.out (by decide))); have n2_ := Aside0.mk (Kd.R_over' (by (with_reducible repeat (first | apply Kd.R_alloc | apply Kd.R_drewN | apply Kd.R_drew)); exact HO309.out) (Kd.R_typed (by (with_reducible repeat (first | apply Kd.R_alloc | apply Kd.R_drewN | apply Kd.R_drew)); exact HO_9.out)) (by decide) hg); have n3_ := Aside0.mk (below_weaken (by repeat (first | (with_reducible first | exact HB.out | apply bwA | apply bwN | apply bwD | refine below_set ?_ (IsS119.ge HI0.out)) | exact HB.out)) HL.out hb); have n4_ := Aside0.mk (KeepBut.trans (by repeat (first | (with_reducible first | exact HK.out | apply KeepBut.set_ | apply keep_drewN | apply keep_drew | apply keep_alloc) | exact HK.out)) (KeepBut.of_grown hg g) (Kd.R_base2 HO_9.out)); have n5_ := Aside0.mk (ho); clear HO_10; clear HI0; clear HO309; clear HB; clear HK; clear HO_9; have HO_10 := n0_; have HI0 := n1_; have HO309 := n2_; have HB := n3_; have HK := n4_; have HO316 := n5_; clear n0_ n1_ n2_ n3_ n4_ n5_; clear ho hb hg hat))
             go_ret
             exact ⟨_, by first | rfl | (simp [errW_none, errW_some] <;> rfl) | (simp [*, errW_none, errW_some] <;> rfl), by (with_reducible repeat (first | apply Kd.R_alloc | apply Kd.R_drewN | apply Kd.R_drew)); exact HO316.out, by repeat (first | (with_reducible first | exact HI0.out | apply IsS119.alloc | apply IsS119.drewN | apply IsS119.drew | apply IsS119.set_1) | exact HI0.out), by repeat (first | (with_reducible first | exact HB.out | apply bwA | apply bwN | apply bwD | refine below_set ?_ (IsS119.ge HI0.out)) | exact HB.out), by repeat (first | (with_reducible first | exact HK.out | apply KeepBut.set_ | apply keep_drewN | apply keep_drew | apply keep_alloc) | exact HK.out)⟩
            ·rw [if_neg c148] at H
             exact absurd H (by simp)
           ·replace c144 := Bool.eq_false_iff.mpr c144
            subst c144
            have H1 : (some (x9_112, x1001_1)) = some (r1, r2) := by rw [if_neg (show ¬ (false = true) by decide)] at H; exact H
            clear H
            have H := H1
            clear H1
            simp only [Option.some.injEq, Prod.mk.injEq] at H
            obtain ⟨rfl, rfl⟩ := H
            go_wp2
            go_ret
            exact ⟨_, by first | rfl | (simp [errW_none, errW_some] <;> rfl) | (simp [*, errW_none, errW_some] <;> rfl), by (with_reducible repeat (first | apply Kd.R_alloc | apply Kd.R_drewN | apply Kd.R_drew)); exact HO_9.out, by repeat (first | (with_reducible first | exact HI0.out | apply IsS119.alloc | apply IsS119.drewN | apply IsS119.drew | apply IsS119.set_1) | exact HI0.out), by repeat (first | (with_reducible first | exact HB.out | apply bwA | apply bwN | apply bwD | refine below_set ?_ (IsS119.ge HI0.out)) | exact HB.out), by repeat (first | (with_reducible first | exact HK.out | apply KeepBut.set_ | apply keep_drewN | apply keep_drew | apply keep_alloc) | exact HK.out)⟩

end Go.Proofs.Ytpfkgmcbogcmoaa.QFnEvalUsed
